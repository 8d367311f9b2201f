import Derived.Test.YtkgkfdphbkfjnaaGreatFwA
import Derived.Lib.ItoaNum
import Derived.Lib.ItoaLen
import Derived.Lib.Join
import Derived.Test.YtkgkfdphbkfjnaaGreatFwC
namespace Sp
open Go
abbrev Bytes:=List UInt8
abbrev LI:=List (Int×Unit)
abbrev LS:=List (Bytes×Unit)
theorem take_succ'{α:Type}(a:List α)(n:Nat)(d:α)(h:n<a.length):a.take (n+1)=a.take n++[a.getD n d]:=by rw[azs h,awR,awV h];rfl
def aic(l:LI):Prop:=∀x∈l,-9223372036854775808<=x.1/\x.1<=9223372036854775807
theorem aic.take{a:LI}(h:aic a)(n:Nat):aic (a.take n):=λx hx=>h x (ay2 hx)
theorem aic.get{a:LI}(h:aic a){n:Nat}(hn:n<a.length)(d:Int×Unit):(Lib.itoa (a.getD n d).1).length<=21:=by
 have:a.getD n d∈a:=by rw[awR,awV hn,azt];exact ayb hn
 exact Lib.itoa_length_le _ (h _ this).1 (h _ this).2
end Sp
namespace Sp
open Go
set_option synthInstance.maxSize 100000
set_option synthInstance.maxHeartbeats 1000000
abbrev aaV:=Int×Int×Bytes×Unit
abbrev aS:=Bytes×Int×Int×Bytes×Unit
abbrev bI:=Int×Int×Int×Bytes×Int×Int×Bytes×Unit
abbrev aF:=Int×Int×Bool×Int×List aS×Unit
abbrev aV:=Bytes×List bI×Unit
abbrev zB:=Int×Int×Int×Bool×Int×List aS×Int×Bytes×List bI×Unit
instance:DecidableEq aaV:=inferInstance
instance:DecidableEq aS:=inferInstance
instance:DecidableEq bI:=inferInstance
instance:DecidableEq aF:=inferInstance
instance:DecidableEq aV:=inferInstance
instance:DecidableEq (Int×aV):=inferInstance
instance:DecidableEq (List aS×Int×aV):=inferInstance
instance:DecidableEq (Bool×Int×List aS×Int×aV):=inferInstance
instance avN:DecidableEq zB:=(inferInstance:DecidableEq (Int×Int×Int×Bool×Int×List aS×Int×aV))
instance:DecidableEq (List zB):=inferInstance
instance:DecidableEq (List zB×Bytes×Int×Unit):=inferInstance
def lower(s:Bytes):Bool:=s.all λc=>decide (97<=c.toNat)&&decide (c.toNat<=122)
def iV(s:Bytes):Bool:=lower s&&decide (1<=(s.length:Int))&&decide ((s.length:Int)<=6)
def atS(n:Int):Bool:=decide (0<=n)&&decide (n<=1000000000)
def idxFrom:Int->LI->Int
 |_,[]=>-1
 |k,x::r=>if atS x.1 then idxFrom (k+1) r else k
def idxOf(l:LI):Int:=idxFrom 0 l
end Sp
namespace Sp
open Go
abbrev fD:=Bytes×Int×Unit
abbrev bP:=List fD×List aF×Int×Unit
instance:DecidableEq fD:=inferInstance
instance:DecidableEq (List fD):=inferInstance
instance:DecidableEq (List aF):=inferInstance
instance:DecidableEq (List aF×Int×Unit):=inferInstance
instance awh:DecidableEq bP:=(inferInstance:DecidableEq (List fD×List aF×Int×Unit))
def usual:List fD:=[([97],1,()),([98],1,()),([110],2,()),([116],2,())]
def bY(f:aF):Prop:=f.2.2.2.2.1.length<=1000
def bn(s:bP):Prop:=s.1.length<=1000/\s.2.1.length<=1000/\∀f∈s.2.1,bY f
def jK(n:Nat)(f:Nat->Bool):Bool:=(List.range n).all f
def jY(s:Bytes):Bool:=lower s&&decide (1<=(s.length:Int))&&decide ((s.length:Int)<=1)
def kH(k n:Int)(s:Bytes):Bool:=
 bif decide (k=0)then decide (n=0)&&decide (s=[])
 else bif decide (k=1)then decide (0<=n)&&decide (n<=999)&&decide (s=[])
 else bif decide (k=2)then iV s&&decide (n=0)
 else false
def kindOf:List fD->Bytes->Int
 |[],_=>0
 |f::r,s=>bif decide (f.1=s)then f.2.1 else kindOf r s
def fieldAt(fs:List fD)(i:Nat):fD:=fs.getD i ([],0,())
def lK(fs:List fD)(i:Nat):Bool:=
 jY (fieldAt fs i).1&&(decide (1<=(fieldAt fs i).2.1)&&decide ((fieldAt fs i).2.1<=2))&&!(decide (0<i)&&!Op.bytesLess (fieldAt fs (i-1)).1 (fieldAt fs i).1)
def fO(fs:List fD):Bool:=jK fs.length (lK fs)&&decide ((fs.length:Int)<=5)
def iO(fs:List fD)(name:Bytes)(k n:Int)(s:Bytes):Bool:=kH k n s&&!decide (k=0)&&decide (k=kindOf fs name)
def cu(as:List aS)(i:Nat):aS:=as.getD i ([],0,0,[],())
def kM(fs:List fD)(as:List aS)(i:Nat):Bool:=
 iO fs (cu as i).1 (cu as i).2.1 (cu as i).2.2.1 (cu as i).2.2.2.1&&!(decide (0<i)&&!Op.bytesLess (cu as (i-1)).1 (cu as i).1)
def iy(fs:List fD)(as:List aS):Bool:=jK as.length (kM fs as)
def bT(fs:List fD)(f:aF):Bool:=
 iy fs f.2.2.2.2.1&&fO fs&&(decide (1<=f.1)&&decide (f.1<=60))&&(decide (0<=f.2.1)&&decide (f.2.1<=2))&&(decide (0<=f.2.2.2.1)&&decide (f.2.2.2.1<=60))
def fileAt(fs:List aF)(i:Nat):aF:=fs.getD i (0,0,false,0,[],())
def kZ(s:bP)(i:Nat):Bool:=
 bT s.1 (fileAt s.2.1 i)&&decide ((fileAt s.2.1 i).1<s.2.2.1)&&!(decide (0<i)&&!decide ((fileAt s.2.1 (i-1)).1<(fileAt s.2.1 i).1))
def aC(s:bP):Bool:=
 jK s.2.1.length (kZ s)&&fO s.1&&decide ((s.2.1.length:Int)<=12)&&(decide (1<=s.2.2.1)&&decide (s.2.2.1<=61))
def rq:Int->List aF->Int->Int
 |_,[],_=>-1
 |k,f::r,id=>bif decide (f.1=id)then k else rq (k+1) r id
def place(fs:List aF)(id:Int):Int:=rq 0 fs id
def iR(f:aF)(u:Int):Bool:=(decide (0<=u)&&decide (u<=2))&&(decide (f.2.1=u)||f.2.2.1)
def nG(f:aF)(u:Int):Bool:=(decide (0<=u)&&decide (u<=2))&&decide (f.2.1=u)
def unlink(fs:List aF)(f:aF):aF:=(f.1,f.2.1,f.2.2.1,(bif decide (place fs f.2.2.2.1<0)then 0 else f.2.2.2.1),f.2.2.2.2.1,())
def visible(s:bP)(u:Int):bP:=
 let fs:=s.2.1.filter (iR · u)
 (s.1,fs.map (unlink fs),s.2.2.1,())
def JH(fs:List aF)(u:Int):List (Int×Unit):=(fs.filter λf=>decide (f.2.1=u)).map λf=>(f.1,())
def VN:aF:=(0,0,false,0,[],())
def aj(s:bP)(id:Int):aF×Bool:=
 bif decide (place s.2.1 id<0)then(VN,false)else(fileAt s.2.1 (place s.2.1 id).toNat,true)
def fV(name:Bytes)(b:aS):Bool:=!(b.1==name)
def gJ(name:Bytes)(b:aS):Bool:=Op.bytesLess b.1 name||b.1==name
def xH(as:List aS)(a:aS):List aS:=as.takeWhile (gJ a.1)++a::as.dropWhile (gJ a.1)
def dU(as:List aS)(name:Bytes)(k n:Int)(s:Bytes):List aS:=
 bif decide (k=0)then as.filter (fV name)else xH (as.filter (fV name)) (name,k,n,s,())
def dD(s:bP)(f:aF):bP×Int×Bool:=
 let g:aF:=(s.2.2.1,f.2)
 bif aC s&&decide ((s.2.1.length:Int)<12)&&bT s.1 g then((s.1,s.2.1++[g],s.2.2.1+1,()),s.2.2.1,true)else(s,0,false)
def aQ(s:bP)(f:aF):bP×Bool:=
 bif aC s&&!decide (place s.2.1 f.1<0)&&bT s.1 f then((s.1,s.2.1.set (place s.2.1 f.1).toNat f,s.2.2.1,()),true)else(s,false)
def fM(s:bP)(id:Int):bP×Bool:=
 bif aC s&&!decide (place s.2.1 id<0)then((s.1,s.2.1.eraseIdx (place s.2.1 id).toNat,s.2.2.1,()),true)else(s,false)
def Gq{α:Type}(p:α->Bool):Int->List α->Int
 |_,[]=>-1
 |k,f::r=>bif p f then k else Gq p (k+1) r
def findAt{α:Type}(p:α->Bool)(l:List α):Int:=Gq p 0 l
def fieldPlace(l:List fD)(name:Bytes):Int:=findAt (λf=>f.1==name) l
end Sp
namespace Sp
theorem amN:∀(n m:Nat)(L:Nat->Nat),(∀k,k<m->∃j,j<n/\L j=k)->m<=n
 |0,m,L,h=>by
  rcases ayD m with h0|h0
  .omega
  .obtain⟨j,hj,_⟩:=h 0 h0;omega
 |n+1,m,L,h=>by
  by_cases hv:L n<m
  .have:=amN n (m-1) (λj=>if L n<L j then L j-1 else L j) λk hk=>by
    by_cases h1:k<L n
    .obtain⟨j,hj,e⟩:=h k (by omega);have:j≠n:=λe2=>by subst e2;omega
     exact⟨j,by omega,by show(if _ then _ else _)=_;rw[if_neg (by omega)];exact e⟩
    .obtain⟨j,hj,e⟩:=h (k+1) (by omega);have:j≠n:=λe2=>by subst e2;omega
     exact⟨j,by omega,by show(if _ then _ else _)=_;rw[if_pos (by omega)];omega⟩
   omega
  .have:=amN n m L λk hk=>by
    obtain⟨j,hj,e⟩:=h k hk;have:j≠n:=λe2=>by subst e2;omega
    exact⟨j,by omega,e⟩
   omega
abbrev Yk:=List (Nat×Nat×Nat)
def jo(E:Yk)(L:Nat->Nat):Prop:=∀e∈E,L e.2.1+e.2.2<=L e.1
def ajG(E:Yk)(n:Nat):Prop:=∀e∈E,e.1<n/\e.2.1<n/\e.2.2<=1
def sumTo(n:Nat)(L:Nat->Nat):Nat:=match n with|0=>0|n+1=>sumTo n L+L n
theorem sumTo_le{L M:Nat->Nat}:∀n,(∀i,i<n->L i<=M i)->sumTo n L<=sumTo n M
 |0,_=>aw7 _
 |n+1,h=>Nat.add_le_add (sumTo_le n λi hi=>h i (by omega)) (h n (by omega))
theorem amO{L M:Nat->Nat}:∀n,(∀i,i<n->L i<=M i)->(∃i,i<n/\L i<M i)->sumTo n L<sumTo n M
 |0,_,⟨i,hi,_⟩=>by omega
 |n+1,h,⟨i,hi,hl⟩=>by
  have h1:=sumTo_le n λj hj=>h j (ayG hj);show sumTo n L+L n<sumTo n M+M n;by_cases e:i=n
  .subst e;omega
  .have:=amO n (λj hj=>h j (ayG hj)) ⟨i,by omega,hl⟩;have:=h n (by omega);omega
theorem Wi{E:Yk}{n:Nat}(hE:ajG E n):∀(s:Nat)(L:Nat->Nat),sumTo n L<=s->jo E L->∃M,jo E M/\∀i,i<n->M i<n
 |s,L,hs,hL=>by
  by_cases hall:∀i,i<n->L i<n
  .exact⟨L,hL,hall⟩
  .obtain⟨i,hi⟩:=ay8.1 hall;have hi1:i<n/\n<=L i:=by
    by_cases h1:i<n
    .exact⟨h1,Nat.le_of_not_lt λh2=>hi λ_=>h2⟩
    .exact(hi λh2=>(h1 h2).elim).elim
   have avI:∃k,k<n/\∀j,j<n->L j≠k:=by
    refine axr λhno=>?_;have:=amN n (n+1) (λj=>min (L j) n) λk hk=>by
     by_cases h1:k<n
     .refine axr λh2=>hno ⟨k,h1,λj hj e=>h2 ⟨j,hj,?_⟩⟩;show min (L j) n=k;omega
     .exact⟨i,hi1.1,by show min (L i) n=k;omega⟩
    omega
   obtain⟨k,hk,hno⟩:=avI;have hlt:sumTo n (λj=>if k<L j then L j-1 else L j)<sumTo n L:=by
    refine amO n (λj _=>?_) ⟨i,hi1.1,?_⟩
    .show(if _ then _ else _)<=_;split
     .exact Nat.sub_le _ _
     .exact aw7 _
    .show(if _ then _ else _)<_;rw[if_pos (by omega)];omega
   match s,hs with
   |0,hs=>omega
   |s+1,hs=>refine Wi hE s (λj=>if k<L j then L j-1 else L j) (by omega) λe he=>?_;have h1:=hL e he;obtain⟨h2,h3,h4⟩:=hE e he;have n1:=hno e.1 h2;have n2:=hno e.2.1 h3;show(if k<L e.2.1 then L e.2.1-1 else L e.2.1)+e.2.2<=(if k<L e.1 then L e.1-1 else L e.1);split<;>split<;>omega
theorem KZ{E:Yk}{n:Nat}(hE:ajG E n)(h:∃L,jo E L):∃M,jo E M/\∀i,i<n->M i<n:=by obtain⟨L,hL⟩:=h;exact Wi hE (sumTo n L) L (aw7 _) hL
structure Raises(E:Yk)(n:Nat)(R:(Nat->Nat)->Nat->Nat):Prop where
 up:∀L i,L i<=R L i
 fix:∀L,(∀i,i<n->R L i=L i)->jo E L
 below:∀L M,jo E M->(∀i,i<n->L i<=M i)->∀i,i<n->R L i<=M i
 same:∀L L',(∀i,i<n->L i=L' i)->∀i,i<n->R L i=R L' i
end Sp
namespace Sp
open Go
abbrev auB:=List fD×List aF×Int×List aV×Unit
abbrev atT:=Int×List fD×List aF×Int×List aV×Int×Unit
instance:DecidableEq (List bI):=inferInstance
instance:DecidableEq aV:=inferInstance
instance:DecidableEq (List aV):=inferInstance
instance:DecidableEq (List aV×Unit):=inferInstance
instance:DecidableEq (Int×List aV×Unit):=inferInstance
instance:DecidableEq (List aF×Int×List aV×Unit):=inferInstance
instance aws:DecidableEq auB:=(inferInstance:DecidableEq (List fD×List aF×Int×List aV×Unit))
instance:DecidableEq (List aV×Int×Unit):=inferInstance
instance:DecidableEq (Int×List aV×Int×Unit):=inferInstance
instance:DecidableEq (List aF×Int×List aV×Int×Unit):=inferInstance
instance:DecidableEq (List fD×List aF×Int×List aV×Int×Unit):=inferInstance
instance awF:DecidableEq atT:=(inferInstance:DecidableEq (Int×List fD×List aF×Int×List aV×Int×Unit))
instance:DecidableEq (List atT):=inferInstance
def nodeAt(q:List bI)(i:Nat):bI:=q.getD i (0,0,0,[],0,0,[],())
def gZ(n:bI):Bool:=n.1==6||n.1==7
def jP(n:bI):Bool:=n.1==8||n.1==9
def kT(n:bI)(a:Int):Bool:=
 let kids:=decide (0<=n.2.1)&&decide (n.2.1<=a-1)&&decide (0<a)
 let two:=decide (0<=n.2.2.1)&&decide (n.2.2.1<=a-1)
 let bare:=n.2.2.2.1==[]&&(n.2.2.2.2.1==0&&(n.2.2.2.2.2.1==0&&n.2.2.2.2.2.2.1==[]))
 let flat:=n.2.1==0&&n.2.2.1==0
 let valued:=kH n.2.2.2.2.1 n.2.2.2.2.2.1 n.2.2.2.2.2.2.1
 let void:=n.2.2.2.2.1==0&&(n.2.2.2.2.2.1==0&&n.2.2.2.2.2.2.1==[])
 bif n.1==1 then flat&&bare else bif n.1==2 then flat&&void&&jY n.2.2.2.1 else
 bif n.1==3 then flat&&jY n.2.2.2.1&&valued&&!(n.2.2.2.2.1==0)else bif n.1==4 then flat&&jY n.2.2.2.1&&valued&&n.2.2.2.2.1==1 else
 bif n.1==5 then kids&&n.2.2.1==0&&bare else bif n.1==6||n.1==7 then kids&&two&&bare else
 bif n.1==8||n.1==9 then flat&&void&&iV n.2.2.2.1 else false
def refsOf(a:Int)(n:bI):Nat:=(bif (gZ n||n.1==5)&&n.2.1==a then 1 else 0)+(bif gZ n&&n.2.2.1==a then 1 else 0)
def nN(q:List bI)(a:Int):Nat:=(q.map (refsOf a)).sum
def mF(q:List bI)(i:Nat):Bool:=kT (nodeAt q i) i&&!(decide ((i:Int)<(q.length:Int)-1)&&!(nN q i==1))
def aZ(q:List bI):Bool:=jK q.length (mF q)&&(decide (1<=(q.length:Int))&&decide ((q.length:Int)<=9))
def dN(d:List aV)(i:Nat):aV:=d.getD i ([],[],())
def ny(d:List aV)(i:Nat):Bool:=iV (dN d i).1&&aZ (dN d i).2.1&&!(decide (0<i)&&!Op.bytesLess (dN d (i-1)).1 (dN d i).1)
def gm(d:List aV):Bool:=jK d.length (ny d)&&decide ((d.length:Int)<=5)
def kW(q:List bI)(i:Nat)(out:List (Bool×Unit)):List (Bool×Unit):=
 let n:=nodeAt q i
 bif n.1==5 then out.set n.2.1.toNat (true,())else bif gZ n then(out.set n.2.1.toNat ((out.getD i (false,())).1,())).set n.2.2.1.toNat ((out.getD i (false,())).1,())else out
def jr(q:List bI):Nat->List (Bool×Unit)->List (Bool×Unit)
 |0,out=>out
 |n+1,out=>jr q n (kW q n out)
def negated(q:List bI):List (Bool×Unit):=bif aZ q then jr q q.length (List.replicate q.length (false,()))else[]
def fJ(q:List bI)(neg:Bool):List Bytes:=(List.range (negated q).length).filterMap λi=>bif jP (nodeAt q i)&&((negated q).getD i (false,())).1==neg then some (nodeAt q i).2.2.2.1 else none
def Ht:Int->List aV->Bytes->Int
 |_,[],_=>-1
 |k,x::r,s=>bif x.1==s then k else Ht (k+1) r s
def aP(d:List aV)(s:Bytes):Int:=Ht 0 d s
def dV(d:List aV):Yk:=
 (List.range d.length).flatMap λi=>
   ((fJ (dN d i).2.1 false).filterMap λs=>bif decide (0<=aP d s)then some (i,(aP d s).toNat,0)else none)++
   ((fJ (dN d i).2.1 true).filterMap λs=>bif decide (0<=aP d s)then some (i,(aP d s).toNat,1)else none)
open Classical in
noncomputable def aB (d:List aV):Bool:=gm d&&decide (∃L,jo (dV d) L)
def dA(r:LS)(l:List Bytes):Prop:=r.length<=1000/\∀s,(s,())∈r↔s∈l
def zO(d:List aV)(aH:List (Int×Unit))(more:Int):LS->Int
 |[]=>0
 |x::r=>max (bif decide (0<=aP d x.1)then(aH.getD (aP d x.1).toNat (0,())).1+more else 0) (zO d aH more r)
def yZ(l:LS)(s:Bytes):LS:=
 let n:=(l.takeWhile λx=>Op.bytesLess x.1 s).length
 bif decide (n<l.length)&&(l.getD n ([],())).1==s then l else l.take n++[(s,())]++l.drop n
def raised(d:List aV)(aH r:List (Int×Unit)):Prop:=
 r.length=d.length/\(∀i,i<d.length->(aH.getD i (0,())).1<=(r.getD i (0,())).1)/\(∀B:Int,(∀i,i<d.length->(aH.getD i (0,())).1<=B)->∀i,i<d.length->(r.getD i (0,())).1<=B+5000)/\
 ((∀i,i<d.length->(r.getD i (0,())).1=(aH.getD i (0,())).1)->jo (dV d) λi=>(aH.getD i (0,())).1.toNat)/\
 ∀M,jo (dV d) M->(∀i,i<d.length->(aH.getD i (0,())).1<=M i)->∀i,i<d.length->(r.getD i (0,())).1<=M i
def aI(d:List aV):Prop:=d.length<=1000/\∀x∈d,x.2.1.length<=1000
end Sp
namespace Sp
open Go
end Sp
namespace Sp
open Go
theorem abS(s:Bytes):∀(d:List aV)(k:Int),(Ht k d s=-1/\∀x∈d,x.1≠s)\/∃n,n<d.length/\Ht k d s=k+n/\(dN d n).1=s/\∀i,i<n->(dN d i).1≠s
 |[],k=>.inl ⟨rfl,λx hx=>by cases hx⟩
 |x::r,k=>by
  by_cases h:x.1=s
  .right;refine⟨0,by simp,?_,h,λi hi=>by omega⟩;rw[Ht,awZ.2 h];simp
  .rcases abS s r (k+1)with⟨h1,h2⟩|⟨n,h1,h2,h3,h4⟩
   .left;refine⟨by rw[Ht,awS.2 h];exact h1,λy hy=>?_⟩;rcases axi.1 hy with rfl|hy
    .exact h
    .exact h2 y hy
   .right;refine⟨n+1,by simp;omega,by rw[Ht,awS.2 h];show Ht (k+1) r s=_;omega,h3,λi hi=>?_⟩;cases i with
    |zero=>exact h
    |succ i=>exact h4 i (by omega)
theorem sU(d:List aV)(s:Bytes):(aP d s=-1/\∀x∈d,x.1≠s)\/∃n,n<d.length/\aP d s=n/\(dN d n).1=s/\∀i,i<n->(dN d i).1≠s:=by
 rcases abS s d 0 with h|⟨n,h1,h2,h3⟩
 .exact .inl h
 .exact .inr ⟨n,h1,by show Ht 0 d s=_;omega,h3⟩
theorem NH{d:List aV}{s:Bytes}(h:0<=aP d s):aP d s<d.length:=by rcases sU d s with⟨h1,_⟩|⟨n,h1,h2,_⟩<;>omega
theorem Gi{d:List aV}{i j m:Nat}:(i,j,m)∈dV d↔i<d.length/\∃s,((m=0/\s∈fJ (dN d i).2.1 false)\/(m=1/\s∈fJ (dN d i).2.1 true))/\0<=aP d s/\j=(aP d s).toNat:=by
 unfold dV;rw[List.mem_flatMap];constructor
 .rintro⟨k,hk,h⟩;rw[axN]at hk;rcases axb.1 h with h|h
  all_goals
   obtain⟨s,hs,e⟩:=ayS.1 h;rw[cond_eq_ite]at e;split at e
   .next hp=>have hp:0<=aP d s:=ax8 hp;cases e;exact⟨hk,s,by first|exact .inl ⟨rfl,hs⟩|exact .inr ⟨rfl,hs⟩,hp,rfl⟩
   .cases e
 .rintro⟨hi,s,h|h,hp,rfl⟩
  .obtain⟨rfl,hs⟩:=h;refine⟨i,axN.2 hi,axb.2 (.inl (ayS.2 ⟨s,hs,?_⟩))⟩;rw[aw0 hp];rfl
  .obtain⟨rfl,hs⟩:=h;refine⟨i,axN.2 hi,axb.2 (.inr (ayS.2 ⟨s,hs,?_⟩))⟩;rw[aw0 hp];rfl
theorem lg(d:List aV):ajG (dV d) d.length:=by
 rintro⟨i,j,m⟩ he;obtain⟨h1,s,h2,h3,h4⟩:=Gi.1 he;have:=NH h3;refine⟨h1,?_,?_⟩
 .show j<_;omega
 .show m<=1;rcases h2 with⟨h,_⟩|⟨h,_⟩<;>omega
def lv(l:List (Int×Unit))(i:Nat):Int:=(l.getD i (0,())).1
theorem amy{l:List (Int×Unit)}{i:Nat}(hi:i<l.length)(x:Int)(k:Nat):lv (l.set i (x,())) k=if k=i then x else lv l k:=by
 unfold lv;rw[awR,awR];by_cases h:k=i
 .subst h;rw[ax2 hi,if_pos rfl];rfl
 .rw[axL (λe=>h e.symm),if_neg h]
theorem aaZ{l:List (Int×Unit)}{i:Nat}(hi:i<l.length):(lv l i,())∈l:=by unfold lv;rw[awR,awV hi];exact ayb hi
theorem amx{l:List (Int×Unit)}{p:Int->Prop}(h:∀i,i<l.length->p (lv l i)):∀x∈l,p x.1:=by intro x hx;obtain⟨i,hi,e⟩:=axu hx;have:=h i hi;unfold lv at this;rw[awR,awV hi]at this;rw[← e];exact this
theorem aqw{a b:List (Int×Unit)}(hl:a.length=b.length)(h:∀i,i<a.length->lv a i=lv b i):a=b:=by refine ay3 hl λi h1 h2=>?_;have:=h i h1;unfold lv at this;rw[awR,awR,awV h1,awV h2]at this;exact ayK this rfl
structure ML(d:List aV)(aH cur:List (Int×Unit))(g:Int)(P:Nat×Nat×Nat->Prop):Prop where
 len:cur.length=d.length
 up:∀i,i<d.length->lv aH i<=lv cur i
 grow:∀B,(∀i,i<d.length->lv aH i<=B)->∀i,i<d.length->lv cur i<=B+g
 fix:(∀i,i<d.length->lv cur i=lv aH i)->∀e,P e->lv aH e.2.1+e.2.2<=lv aH e.1
 below:∀M,jo (dV d) M->(∀i,i<d.length->lv aH i<=M i)->∀i,i<d.length->lv cur i<=M i
theorem ML.start{d:List aV}{aH:List (Int×Unit)}(h:aH.length=d.length):ML d aH aH 0 λ_=>False:=
 ⟨h,λ_ _=>axv _,λB hB i hi=>by have:=hB i hi;omega,λ_ e he=>he.elim,λ_ _ h=>h⟩
theorem ML.weaken{d:List aV}{aH cur:List (Int×Unit)}{g g':Int}{P P':Nat×Nat×Nat->Prop}(h:ML d aH cur g P)(hg:g<=g')(hP:∀e,P' e->P e):ML d aH cur g' P':=
 ⟨h.len,h.up,λB hB i hi=>by have:=h.grow B hB i hi;omega,λhx e he=>h.fix hx e (hP e he),h.below⟩
theorem ML.still{d:List aV}{aH cur:List (Int×Unit)}{g:Int}{P:Nat×Nat×Nat->Prop}(h:ML d aH cur g P){i j m:Nat}(he:(i,j,m)∈dV d)(hle:lv cur j+m<=lv cur i):ML d aH cur g λe=>P e\/e=(i,j,m):=by
 obtain⟨h1,h2,_⟩:=lg d _ he;refine⟨h.len,h.up,h.grow,λhx e hp=>?_,h.below⟩;rcases hp with hp|rfl
 .exact h.fix hx e hp
 .have a:=hx i h1;have b:=hx j h2;show lv aH j+m<=lv aH i;omega
theorem ML.set{d:List aV}{aH cur:List (Int×Unit)}{g:Int}{P:Nat×Nat×Nat->Prop}(h:ML d aH cur g P){i j m:Nat}(he:(i,j,m)∈dV d)(hlt:lv cur i<lv cur j+m):ML d aH (cur.set i (lv cur j+m,())) (g+m) λe=>P e\/e=(i,j,m):=by
 obtain⟨h1,h2,_⟩:=lg d _ he;have h1:i<d.length:=h1;have h2:j<d.length:=h2;have hl:=h.len;have hs:=λk=>amy (l:=cur) (i:=i) (by omega) (lv cur j+m) k;refine⟨by simp;omega,λk hk=>?_,λB hB k hk=>?_,λhx e hp=>?_,λM hM hb k hk=>?_⟩
 .rw[hs];have a:=h.up k hk;split
  .next e=>subst e;omega
  .exact a
 .rw[hs];have a:=h.grow B hB k hk;have b:=h.grow B hB j h2;split<;>omega
 .have:=hx i h1;rw[hs,if_pos rfl]at this;have:=h.up i h1;omega
 .rw[hs];split
  .next e=>subst e;have a:=h.below M hM hb j h2;have b:=hM _ he;have b:M j+m<=M k:=b;omega
  .exact h.below M hM hb k hk
theorem ML.raised{d:List aV}{aH cur:List (Int×Unit)}{g:Int}{P:Nat×Nat×Nat->Prop}(h:ML d aH cur g P)(hg:g<=5000)(hP:∀e∈dV d,P e)(h0:∀i,i<d.length->0<=lv aH i):raised d aH cur:=by refine⟨h.len,h.up,λB hB i hi=>by have:=h.grow B hB i hi;show lv cur i<=_;omega,λhx e he=>?_,h.below⟩;have a:=h.fix hx e (hP e he);obtain⟨h1,h2,_⟩:=lg d _ he;have b:=h0 _ h1;have c:=h0 _ h2;show(lv aH e.2.1).toNat+e.2.2<=(lv aH e.1).toNat;omega
theorem aid(d:List aV)(aH:List (Int×Unit))(hl:aH.length=d.length):∀(E:Yk),(∀e∈E,e∈dV d)->∃cur:List (Int×Unit),cur.length=d.length/\(∀i,i<d.length->lv aH i<=lv cur i/\(lv cur i=lv aH i\/∃e∈E,e.1=i/\lv cur i=lv aH e.2.1+e.2.2))/\∀e∈E,lv aH e.2.1+e.2.2<=lv cur e.1
 |[],_=>⟨aH,hl,λi hi=>⟨axv _,.inl rfl⟩,λe he=>by cases he⟩
 |e::E,hE=>by
  obtain⟨cur,h1,h2,h3⟩:=aid d aH hl E λx hx=>hE x (aw6 _ hx);obtain⟨g1,g2,_⟩:=lg d e (hE e aw5);by_cases h:lv cur e.1<lv aH e.2.1+e.2.2
  .have hs:=λk=>amy (l:=cur) (i:=e.1) (by omega) (lv aH e.2.1+e.2.2) k;refine⟨cur.set e.1 (lv aH e.2.1+e.2.2,()),by simp;omega,λi hi=>?_,λx hx=>?_⟩
   .rw[hs];have:=h2 i hi;split
    .next hi'=>exact⟨by rw[hi']at this ⊢;omega,.inr ⟨e,aw5,hi'.symm,rfl⟩⟩
    .refine⟨this.1,this.2.imp_right λ⟨x,hx,hy⟩=>⟨x,aw6 _ hx,hy⟩⟩
   .rw[hs];rcases axi.1 hx with rfl|hx
    .rw[if_pos rfl];omega
    .have:=h3 x hx;split
     .next he=>rw[he]at this;omega
     .exact this
  .refine⟨cur,h1,λi hi=>?_,λx hx=>?_⟩
   .have:=h2 i hi;exact⟨this.1,this.2.imp_right λ⟨x,hx,hy⟩=>⟨x,aw6 _ hx,hy⟩⟩
   .rcases axi.1 hx with rfl|hx
    .omega
    .exact h3 x hx
theorem anB(d:List aV)(aH:List (Int×Unit))(hl:aH.length=d.length)(h0:∀i,i<d.length->0<=lv aH i):∃cur,raised d aH cur:=by
 obtain⟨cur,h1,h2,h3⟩:=aid d aH hl (dV d) λ_ h=>h;refine⟨cur,h1,λi hi=>(h2 i hi).1,λB hB i hi=>?_,λhx e he=>?_,λM hM hb i hi=>?_⟩
 .show lv cur i<=_;rcases(h2 i hi).2 with h|⟨e,he,rfl,h⟩
  .rw[h];have:=hB i hi;show(aH.getD i (0,())).1<=_;omega
  .obtain⟨_,g2,g3⟩:=lg d e he;have:lv aH e.2.1<=B:=hB _ g2;omega
 .obtain⟨g1,g2,_⟩:=lg d e he;have a:=h3 e he;have b:=h0 _ g1;have c:=h0 _ g2;have x:lv cur e.1=lv aH e.1:=hx _ g1;show(lv aH e.2.1).toNat+e.2.2<=(lv aH e.1).toNat;omega
 .show lv cur i<=_;rcases(h2 i hi).2 with h|⟨e,he,rfl,h⟩
  .rw[h];exact hb i hi
  .obtain⟨_,g2,_⟩:=lg d e he;have a:lv aH e.2.1<=M e.2.1:=hb _ g2;have b:=hM e he;omega
theorem JX{d:List aV}{aH:List (Int×Unit)}{more:Int}:∀(r:LS)(B:Int),zO d aH more r<=B↔0<=B/\∀x∈r,0<=aP d x.1->lv aH (aP d x.1).toNat+more<=B
 |[],B=>by simp[zO]
 |x::r,B=>by
  have ih:=JX (d:=d) (aH:=aH) (more:=more) r B;rw[zO];have e:∀a b:Int,max a b<=B↔a<=B/\b<=B:=λa b=>by omega
  rw[e,ih];simp only[axi,forall_eq_or_imp];by_cases h:0<=aP d x.1
  .rw[aw0 h];show lv aH _+more<=B/\_↔_;constructor
   .exactλ⟨a,b,c⟩=>⟨b,λ_=>a,c⟩
   .exactλ⟨a,b,c⟩=>⟨b h,a,c⟩
  .rw[aw1 h];show(0:Int)<=B/\_↔_;constructor
   .exactλ⟨a,b,c⟩=>⟨b,λh'=>(h h').elim,c⟩
   .exactλ⟨a,b,c⟩=>⟨a,a,c⟩
def AL(l:List (Int×Unit)):Nat->Int
 |0=>0
 |n+1=>AL l n+lv l n
theorem aeY{a b:List (Int×Unit)}:∀n,(∀i,i<n->lv a i<=lv b i)->AL a n<=AL b n
 |0,_=>axv _
 |n+1,h=>Int.add_le_add (aeY n λi hi=>h i (by omega)) (h n (by omega))
theorem aeX{a b:List (Int×Unit)}:∀n,(∀i,i<n->lv a i<=lv b i)->(∃i,i<n/\lv a i<lv b i)->AL a n<AL b n
 |0,_,⟨i,hi,_⟩=>by omega
 |n+1,h,⟨i,hi,hl⟩=>by
  have h1:=aeY n λj hj=>h j (ayG hj);show AL a n+lv a n<AL b n+lv b n;by_cases e:i=n
  .subst e;omega
  .have:=aeX n (λj hj=>h j (ayG hj)) ⟨i,by omega,hl⟩;have:=h n (by omega);omega
theorem Um{a:List (Int×Unit)}{b:Nat}:∀n:Nat,(∀i,i<n->lv a i<=b)->AL a n<=(n*b:Nat)
 |0,_=>by simp[AL]
 |n+1,h=>by have h1:=Um n λi hi=>h i (ayG hi);have h2:=h n (by omega);show AL a n+lv a n<=((n+1)*b:Nat);rw[Nat.succ_mul];omega
theorem aaP{a:List (Int×Unit)}:∀n:Nat,(∀i,i<n->0<=lv a i)->0<=AL a n
 |0,_=>axv _
 |n+1,h=>Int.add_nonneg (aaP n λi hi=>h i (by omega)) (h n (by omega))
theorem lH{d:List aV}:aB d=true↔gm d=true/\∃L,jo (dV d) L:=by unfold aB;simp
theorem Xj{d:List aV}(h:gm d=true):d.length<=5:=by unfold gm at h;simp only[awP,axj]at h;omega
end Sp
namespace Sp
abbrev Ext(ι α:Type):=ι->α->Bool
structure Sys(ι α:Type) where
 T:ι->Ext ι α->α->Prop
 pos:ι->ι->Prop
 neg:ι->ι->Prop
 mono:∀i X Y,(∀j,pos i j->∀x,X j x=true->Y j x=true)->(∀j,neg i j->∀x,X j x=Y j x)->∀x,T i X x->T i Y x
def aln{ι α:Type}(S:Sys ι α)(N:ι->Prop)(aH:ι->Nat):Prop:=∀i j,N i->N j->(S.pos i j->aH j<=aH i)/\(S.neg i j->aH j<aH i)
structure Eval{ι α:Type}(S:Sys ι α)(N:ι->Prop)(aH:ι->Nat)(X:Ext ι α):Prop where
 fix:∀i,N i->∀x,X i x=true↔S.T i X x
 least:∀k(Y:Ext ι α),(∀i,¬(N i/\aH i=k)->∀x,Y i x=X i x)->(∀i,N i->aH i=k->∀x,S.T i Y x->Y i x=true)->∀i,N i->aH i=k->∀x,X i x=true->Y i x=true
open Classical in
theorem aoj{ι α:Type}{P:ι->Prop}{A B:Ext ι α}:∃Y:Ext ι α,(∀i x,Y i x=true↔A i x=true/\(P i->B i x=true))/\∀i,¬P i->∀x,Y i x=A i x:=by have h:∀i x,decide (A i x=true/\(P i->B i x=true))=true↔A i x=true/\(P i->B i x=true):=λi x=>ayr;refine⟨λi x=>decide (A i x=true/\(P i->B i x=true)),h,λi hi x=>?_⟩;rw[axf,h];exact⟨λh=>h.1,λh=>⟨h,λh'=>(hi h').elim⟩⟩
theorem UO{ι α:Type}{S1 S2:Sys ι α}{N1 N2 U:ι->Prop}{l1 l2:ι->Nat}{X1 X2:Ext ι α}
 (h1:Eval S1 N1 l1 X1) (h2:Eval S2 N2 l2 X2) (s1:aln S1 N1 l1) (s2:aln S2 N2 l2) (u1:∀i,U i->N1 i) (u2:∀i,U i->N2 i)
 (hT:∀i,U i->∀X x,S1.T i X x↔S2.T i X x) (hp:∀i,U i->∀j,S2.pos i j->S1.pos i j) (hn:∀i,U i->∀j,S2.neg i j->S1.neg i j)
 (hc:∀i,U i->∀j,S1.pos i j\/S1.neg i j->U j\/∀x,X1 j x=X2 j x):∀i,U i->∀x,X1 i x=X2 i x:=by
 have key:∀k,∀i,U i->l1 i=k->∀x,X1 i x=X2 i x:=by
  intro k
  induction k using Nat.strongRecOn with
  |_ k ih=>
   have below:∀j,U j->l1 j<k->∀x,X1 j x=X2 j x:=λj hj hl=>ih (l1 j) hl j hj rfl;have auC:∀i,U i->l1 i=k->∀x,X1 i x=true->X2 i x=true:=by
    obtain⟨Y,hY,hY'⟩:=aoj (P:=λi=>U i/\l1 i=k) (A:=X1) (B:=X2);have:=h1.least k Y (λi hi=>hY' i λh=>hi ⟨u1 i h.1,h.2⟩) λi hN hl x hx=>by
     have amP:∀j,S1.neg i j->∀x,Y j x=X1 j x:=λj hj=>hY' j λh=>by have:=(s1 i j hN (u1 j h.1)).2 hj;omega
     refine(hY i x).2 ⟨(h1.fix i hN x).2 (S1.mono i Y X1 (λj _ y hy=>((hY j y).1 hy).1) amP x hx),λhU=>?_⟩;refine(h2.fix i (u2 i hU.1) x).2 ((hT i hU.1 X2 x).1 (S1.mono i Y X2 (λj hj y hy=>?_) (λj hj y=>?_) x hx))
     .have hy:=(hY j y).1 hy;rcases hc i hU.1 j (.inl hj)with h|h
      .have hl2:=(s1 i j hN (u1 j h)).1 hj;rcases aw8 (l1 j) k with h3|h3
       .rw[← below j h h3];exact hy.1
       .exact hy.2 ⟨h,by omega⟩
      .rw[← h];exact hy.1
     .rw[amP j hj];rcases hc i hU.1 j (.inr hj)with h|h
      .exact below j h (by have:=(s1 i j hN (u1 j h)).2 hj;omega) y
      .exact h y
    exactλi hU hl x hx=>((hY i x).1 (this i (u1 i hU) hl x hx)).2 ⟨hU,hl⟩
   have auD:∀m,∀i,U i->l1 i=k->l2 i=m->∀x,X2 i x=true->X1 i x=true:=by
    intro m
    induction m using Nat.strongRecOn with
    |_ m ih2=>
     obtain⟨Y,hY,hY'⟩:=aoj (P:=λi=>U i/\l1 i=k/\l2 i=m) (A:=X2) (B:=X1);have:=h2.least m Y (λi hi=>hY' i λh=>hi ⟨u2 i h.1,h.2.2⟩) λi hN hl x hx=>by
      have amP:∀j,S2.neg i j->∀x,Y j x=X2 j x:=λj hj=>hY' j λh=>by have:=(s2 i j hN (u2 j h.1)).2 hj;omega
      refine(hY i x).2 ⟨(h2.fix i hN x).2 (S2.mono i Y X2 (λj _ y hy=>((hY j y).1 hy).1) amP x hx),λhU=>?_⟩;refine(h1.fix i (u1 i hU.1) x).2 ((hT i hU.1 X1 x).2 (S2.mono i Y X1 (λj hj y hy=>?_) (λj hj y=>?_) x hx))
      .have hy:=(hY j y).1 hy;have hj1:=hp i hU.1 j hj;rcases hc i hU.1 j (.inl hj1)with h|h
       .have g1:=(s1 i j (u1 i hU.1) (u1 j h)).1 hj1;have g2:=(s2 i j hN (u2 j h)).1 hj;rcases aw8 (l1 j) k with h3|h3
        .rw[below j h h3];exact hy.1
        .rcases aw8 (l2 j) m with h4|h4
         .exact ih2 (l2 j) h4 j h (by omega) rfl y hy.1
         .exact hy.2 ⟨h,by omega,by omega⟩
       .rw[h];exact hy.1
      .rw[amP j hj];have hj1:=hn i hU.1 j hj;rcases hc i hU.1 j (.inr hj1)with h|h
       .exact(below j h (by have:=(s1 i j (u1 i hU.1) (u1 j h)).2 hj1;omega) y).symm
       .exact(h y).symm
     exactλi hU hl1 hl2 x hx=>((hY i x).1 (this i (u2 i hU) hl2 x hx)).2 ⟨hU,hl1,hl2⟩
   exactλi hU hl x=>axf.2 ⟨auC i hU hl x,auD (l2 i) i hU hl rfl x⟩
 exactλi hU x=>key (l1 i) i hU rfl x
end Sp
namespace Sp
open Go
abbrev dI:=Bytes×List (Int×Unit)×Unit
abbrev BX:=Ext Bytes Int
def bf:List aS->Bytes->aaV
 |[],_=>(0,0,[],())
 |a::r,s=>bif a.1==s then(a.2.1,a.2.2.1,a.2.2.2.1,())else bf r s
def fF:List dI->Bytes->List (Int×Unit)
 |[],_=>[]
 |x::r,s=>bif x.1==s then x.2.1 else fF r s
def fE(l:List (Int×Unit))(x:Int):Bool:=l.any λy=>y.1==x
def aO(r:List dI):BX:=λs x=>fE (fF r s) x
theorem Gs{l:List (Int×Unit)}{x:Int}:fE l x=true↔(x,())∈l:=by unfold fE;rw[axQ];exact⟨λ⟨y,hy,h⟩=>by rw[← awZ.1 h];exact hy,λh=>⟨_,h,awZ.2 rfl⟩⟩
def iY(n:bI)(f:aF)(X:BX):Bool:=
 bif n.1==2 then !((bf f.2.2.2.2.1 n.2.2.2.1).1==0)else
 bif n.1==3 then decide (bf f.2.2.2.2.1 n.2.2.2.1=(n.2.2.2.2.1,n.2.2.2.2.2.1,n.2.2.2.2.2.2.1,()))else
 bif n.1==4 then(bf f.2.2.2.2.1 n.2.2.2.1).1==1&&decide ((bf f.2.2.2.2.1 n.2.2.2.1).2.1<n.2.2.2.2.2.1)else
 bif n.1==8 then X n.2.2.2.1 f.1 else
 bif n.1==9 then !(f.2.2.2.1==0)&&X n.2.2.2.1 f.2.2.2.1 else true
def val(q:List bI)(f:aF)(X:BX)(a:Nat):Bool:=
 if(nodeAt q a).1=5 then(if h:(nodeAt q a).2.1.toNat<a then !val q f X (nodeAt q a).2.1.toNat else true)
 else if(nodeAt q a).1=6 then(if h:(nodeAt q a).2.1.toNat<a/\(nodeAt q a).2.2.1.toNat<a then val q f X (nodeAt q a).2.1.toNat&&val q f X (nodeAt q a).2.2.1.toNat else true)
 else if(nodeAt q a).1=7 then(if h:(nodeAt q a).2.1.toNat<a/\(nodeAt q a).2.2.1.toNat<a then val q f X (nodeAt q a).2.1.toNat||val q f X (nodeAt q a).2.2.1.toNat else true)
 else iY (nodeAt q a) f X
termination_by a
decreasing_by all_goals omega
theorem N8(q:List bI)(f:aF)(X:BX)(a:Nat):val q f X a=
 if(nodeAt q a).1=5 then(if h:(nodeAt q a).2.1.toNat<a then !val q f X (nodeAt q a).2.1.toNat else true)
 else if(nodeAt q a).1=6 then(if h:(nodeAt q a).2.1.toNat<a/\(nodeAt q a).2.2.1.toNat<a then val q f X (nodeAt q a).2.1.toNat&&val q f X (nodeAt q a).2.2.1.toNat else true)
 else if(nodeAt q a).1=7 then(if h:(nodeAt q a).2.1.toNat<a/\(nodeAt q a).2.2.1.toNat<a then val q f X (nodeAt q a).2.1.toNat||val q f X (nodeAt q a).2.2.1.toNat else true)
 else iY (nodeAt q a) f X:=by rw[val]
def iH(q:List bI)(f:aF)(X:BX):Bool:=aZ q&&val q f X (q.length-1)
def sel(fs:List aF)(q:List bI)(X:BX):List (Int×Unit):=(fs.filter λf=>iH q f X).map λf=>(f.1,())
def Ey(q:List bI)(i:Nat):Bool:=((negated q).getD i (false,())).1
theorem QM{q:List bI}(h:aZ q=true){i:Nat}(hi:i<q.length):kT (nodeAt q i) i=true/\((i:Int)<(q.length:Int)-1->nN q i=1):=by
 unfold aZ at h;rw[awP]at h;have h1:mF q i=true:=by have:=h.1;unfold jK at this;exact axk.1 this i (axN.2 hi)
 unfold mF at h1;rw[awP]at h1;refine⟨h1.1,λhl=>?_⟩;have h2:=h1.2;rw[aw0 hl]at h2;simpa using h2
theorem xu{q:List bI}(h:aZ q=true):1<=q.length/\q.length<=9:=by unfold aZ at h;simp only[awP,axj]at h;omega
theorem ad3{n:bI}{a:Nat}(h:kT n a=true)(hn:n.1=5\/n.1=6\/n.1=7):0<=n.2.1/\n.2.1.toNat<a:=by unfold kT at h;rcases hn with e|e|e<;>simp[e]at h<;>omega
theorem P5{n:bI}{a:Nat}(h:kT n a=true)(hn:n.1=6\/n.1=7):0<=n.2.2.1/\n.2.2.1.toNat<a:=by unfold kT at h;rcases hn with e|e<;>simp[e]at h<;>omega
theorem aok{α:Type}(g:α->Nat):∀(l:List α),(l.map g).sum=1->∀i j,i<l.length->j<l.length->i≠j->∀d,1<=g (l.getD i d)->g (l.getD j d)=0
 |[],_,i,_,hi,_,_,_,_=>by simp at hi
 |x::r,h,i,j,hi,hj,hne,d,hg=>by
  rw[axm,ayP]at h;have mem:∀(l:List α) k,k<l.length->g (l.getD k d)<=(l.map g).sum:=by
   intro l
   induction l with
   |nil=>intro k hk;simp at hk
   |cons y t ih=>
    intro k hk;rw[axm,ayP];cases k with
    |zero=>exact Nat.le_add_right _ _
    |succ k=>exact aw2 (ih k (by simpa using hk)) (Nat.le_add_left _ _)
  cases i with
  |zero=>
   cases j with
   |zero=>exact(hne rfl).elim
   |succ j=>
    have h1:1<=g x:=hg;have:=mem r j (by simpa using hj);show g (r.getD j d)=0;omega
  |succ i=>
   have h1:1<=g (r.getD i d):=hg;have h2:=mem r i (by simpa using hi);cases j with
   |zero=>show g x=0;omega
   |succ j=>exact aok g r (by omega) i j (by simpa using hi) (by simpa using hj) (by omega) d hg
theorem LU{q:List bI}{p:Nat}:∀(n:Nat)(out:List (Bool×Unit)),(∀i,i<n->((nodeAt q i).1=5\/gZ (nodeAt q i)=true->(nodeAt q i).2.1.toNat≠p)/\(gZ (nodeAt q i)=true->(nodeAt q i).2.2.1.toNat≠p))->
 (jr q n out).getD p (false,())=out.getD p (false,())
 |0,_,_=>rfl
 |n+1,out,h=>by
  have ih:=LU n (kW q n out) λi hi=>h i (by omega);show(jr q n (kW q n out)).getD p (false,())=_;rw[ih];have hs:∀(l:List (Bool×Unit)) k x,k≠p->(l.set k x).getD p (false,())=l.getD p (false,()):=λl k x hk=>by rw[awR,axL hk,← awR]
  obtain⟨h1,h2⟩:=h n (by omega);unfold kW;dsimp only;cases e5:((nodeAt q n).1==5)with
  |true=>exact hs _ _ _ (h1 (.inl (awZ.1 e5)))
  |false=>
   cases e2:gZ (nodeAt q n)with
   |true=>exact(hs _ _ _ (h2 e2)).trans (hs _ _ _ (h1 (.inr e2)))
   |false=>rfl
theorem IW(q:List bI):∀(n:Nat)(out:List (Bool×Unit)),(jr q n out).length=out.length
 |0,_=>rfl
 |n+1,out=>by show(jr q n (kW q n out)).length=_;rw[IW q n];unfold kW;dsimp only;cases (nodeAt q n).1==5<;>cases gZ (nodeAt q n)<;>simp
theorem uy{n:bI}:gZ n=true↔n.1=6\/n.1=7:=by unfold gZ;simp
theorem YL(q:List bI):∀(k m:Nat)(out:List (Bool×Unit)),∃mid:List (Bool×Unit),mid.length=out.length/\jr q (m+k) out=jr q m mid
 |0,_,out=>⟨out,rfl,rfl⟩
 |k+1,m,out=>by
  obtain⟨mid,h1,h2⟩:=YL q k m (kW q (m+k) out);have hl:(kW q (m+k) out).length=out.length:=by unfold kW;dsimp only;cases (nodeAt q (m+k)).1==5<;>cases gZ (nodeAt q (m+k))<;>simp
  exact⟨mid,h1.trans hl,h2⟩
theorem Lh{q:List bI}(h:aZ q=true){i:Nat}(hi:i<q.length):((nodeAt q i).1=5\/gZ (nodeAt q i)=true->0<=(nodeAt q i).2.1/\(nodeAt q i).2.1.toNat<i)/\(gZ (nodeAt q i)=true->0<=(nodeAt q i).2.2.1/\(nodeAt q i).2.2.1.toNat<i):=by
 have h1:=(QM h hi).1;refine⟨λh2=>?_,λh2=>P5 h1 (uy.1 h2)⟩;rcases h2 with h2|h2
 .exact ad3 h1 (.inl h2)
 .exact ad3 h1 (.inr (uy.1 h2))
theorem apu{q:List bI}(h:aZ q=true){i j p:Nat}(hi:i<q.length)(hj:j<q.length)(hne:i≠j)(hp:p<i)(hr:1<=refsOf p (nodeAt q i)):refsOf p (nodeAt q j)=0:=
 aok (refsOf p) q ((QM h (by omega)).2 (by omega)) i j hi hj hne _ hr
theorem anC{p:Nat}{n:bI}(h:refsOf p n=0)(h0:((n.1=5\/gZ n=true)->0<=n.2.1)/\(gZ n=true->0<=n.2.2.1)):(n.1=5\/gZ n=true->n.2.1.toNat≠p)/\(gZ n=true->n.2.2.1.toNat≠p):=by
 unfold refsOf at h;refine⟨λh1 h2=>?_,λh1 h2=>?_⟩
 .have h3:=h0.1 h1;have h4:((gZ n||n.1==5)&&n.2.1==(p:Int))=true:=by
   have:(gZ n||n.1==5)=true:=by rcases h1 with h1|h1<;>simp[h1]
   rw[this];simp;omega
  rw[h4]at h;simp at h
 .have h3:=h0.2 h1;have h4:(gZ n&&n.2.2.1==(p:Int))=true:=by rw[h1];simp;omega
  rw[h4]at h;simp at h
theorem ad4{p:Nat}{n:bI}(h:n.1=5\/gZ n=true)(h0:0<=n.2.1)(e:n.2.1.toNat=p):1<=refsOf p n:=by
 unfold refsOf;have h4:((gZ n||n.1==5)&&n.2.1==(p:Int))=true:=by
  have:(gZ n||n.1==5)=true:=by rcases h with h1|h1<;>simp[h1]
  rw[this];simp;omega
 rw[h4];simp
theorem amQ{p:Nat}{n:bI}(h:gZ n=true)(h0:0<=n.2.2.1)(e:n.2.2.1.toNat=p):1<=refsOf p n:=by
 unfold refsOf;have h4:(gZ n&&n.2.2.1==(p:Int))=true:=by rw[h];simp;omega
 rw[h4];simp
theorem Yl{l:List (Bool×Unit)}{k p:Nat}{x:Bool×Unit}(hk:k<l.length):(l.set k x).getD p (false,())=if k=p then x else l.getD p (false,()):=by
 rw[awR,ayX];by_cases h:k=p
 .subst h;simp[hk]
 .simp[h]
theorem apv{q:List bI}(h:aZ q=true){i:Nat}(hi:i<q.length):
 ((nodeAt q i).1=5->Ey q (nodeAt q i).2.1.toNat=true)/\(gZ (nodeAt q i)=true->Ey q (nodeAt q i).2.1.toNat=Ey q i/\Ey q (nodeAt q i).2.2.1.toNat=Ey q i):=by
 have hn:negated q=jr q q.length (List.replicate q.length (false,())):=by unfold negated;rw[h];rfl
 obtain⟨mid,hm1,hm2⟩:=YL q (q.length-(i+1)) (i+1) (List.replicate q.length (false,()));rw[show i+1+(q.length-(i+1))=q.length by omega,← hn]at hm2;have hml:mid.length=q.length:=by rw[hm1];simp
 have hm3:negated q=jr q i (kW q i mid):=hm2;obtain⟨k1,k2⟩:=Lh h hi;have keep:∀p,p<i->1<=refsOf p (nodeAt q i)->Ey q p=((kW q i mid).getD p (false,())).1:=λp hp hr=>by
  unfold Ey;rw[hm3,LU i];intro j hj;have hjl:j<q.length:=by omega
  obtain⟨g1,g2⟩:=Lh h hjl;exact anC (apu h hi hjl (by omega) hp hr) ⟨λz=>(g1 z).1,λz=>(g2 z).1⟩
 have self:Ey q i=(mid.getD i (false,())).1:=by unfold Ey;rw[hm2,LU (i+1)];intro j hj;obtain⟨g1,g2⟩:=Lh h (show j<q.length by omega);exact⟨λz=>by have:=(g1 z).2;omega,λz=>by have:=(g2 z).2;omega⟩
 refine⟨λh5=>?_,λh2=>?_⟩
 .obtain⟨a,b⟩:=k1 (.inl h5);rw[keep _ b (ad4 (.inl h5) a rfl)];unfold kW;dsimp only;rw[awZ.2 h5];show((mid.set _ (true,())).getD _ (false,())).1=true;rw[Yl (by omega),if_pos rfl]
 .obtain⟨a,b⟩:=k1 (.inr h2);obtain⟨a',b'⟩:=k2 h2;have h5:((nodeAt q i).1==5)=false:=by rcases uy.1 h2 with e|e<;>rw[e]<;>rfl
  rw[keep _ b (ad4 (.inr h2) a rfl),keep _ b' (amQ h2 a' rfl),self];unfold kW;dsimp only;rw[h5,h2];show(((mid.set _ ((mid.getD i (false,())).1,())).set _ ((mid.getD i (false,())).1,())).getD _ (false,())).1=_/\(((mid.set _ ((mid.getD i (false,())).1,())).set _ ((mid.getD i (false,())).1,())).getD _ (false,())).1=_;rw[Yl (by rw[axe];omega),Yl (by omega),Yl (by rw[axe];omega),if_pos rfl,if_pos rfl];exact⟨by split<;>rfl,rfl⟩
theorem apw{q:List bI}(h:aZ q=true):Ey q (q.length-1)=false:=by
 have hn:negated q=jr q q.length (List.replicate q.length (false,())):=by unfold negated;rw[h];rfl
 have hl:=xu h;unfold Ey;rw[hn,LU q.length]
 .rw[awR,ayL];split<;>rfl
 .intro j hj;obtain⟨g1,g2⟩:=Lh h hj;exact⟨λz=>by have:=(g1 z).2;omega,λz=>by have:=(g2 z).2;omega⟩
theorem amR{q:List bI}(h:aZ q=true){i:Nat}(hi:i<q.length)(hd:jP (nodeAt q i)=true):(nodeAt q i).2.2.2.1∈fJ q (Ey q i):=by
 have hl:(negated q).length=q.length:=by unfold negated;rw[h];show(jr _ _ _).length=_;rw[IW];simp
 unfold fJ;rw[ayS];refine⟨i,axN.2 (by omega),?_⟩;unfold Ey;rw[hd];simp
theorem arQ{q:List bI}{f:aF}{X Y:BX}(h:aZ q=true)(hp:∀s∈fJ q false,∀x,X s x=true->Y s x=true)(hn:∀s∈fJ q true,∀x,X s x=Y s x):
 ∀a,a<q.length->(Ey q a=false->val q f X a=true->val q f Y a=true)/\(Ey q a=true->val q f X a=val q f Y a):=by
 intro a
 induction a using Nat.strongRecOn with
 |_ a ih=>
  intro ha;obtain⟨k1,k2⟩:=Lh h ha;obtain⟨n1,n2⟩:=apv h ha;rw[N8 q f X a,N8 q f Y a];by_cases h5:(nodeAt q a).1=5
  .have hk:=k1 (.inl h5);have i1:=(ih _ hk.2 (by omega)).2 (n1 h5);rw[if_pos h5,if_pos h5,dif_pos hk.2,dif_pos hk.2,i1];exact⟨λ_=>id,λ_=>rfl⟩
  rw[if_neg h5,if_neg h5];by_cases h6:(nodeAt q a).1=6
  .have h2:gZ (nodeAt q a)=true:=uy.2 (.inl h6);have hk:=k1 (.inr h2);have hk':=k2 h2;have i1:=ih _ hk.2 (by omega);have i2:=ih _ hk'.2 (by omega);rw[(n2 h2).1]at i1;rw[(n2 h2).2]at i2;rw[if_pos h6,if_pos h6,dif_pos ⟨hk.2,hk'.2⟩,dif_pos ⟨hk.2,hk'.2⟩];refine⟨λhf hv=>?_,λht=>by rw[i1.2 ht,i2.2 ht]⟩;rw[awP]at hv ⊢;exact⟨i1.1 hf hv.1,i2.1 hf hv.2⟩
  rw[if_neg h6,if_neg h6];by_cases h7:(nodeAt q a).1=7
  .have h2:gZ (nodeAt q a)=true:=uy.2 (.inr h7);have hk:=k1 (.inr h2);have hk':=k2 h2;have i1:=ih _ hk.2 (by omega);have i2:=ih _ hk'.2 (by omega);rw[(n2 h2).1]at i1;rw[(n2 h2).2]at i2;rw[if_pos h7,if_pos h7,dif_pos ⟨hk.2,hk'.2⟩,dif_pos ⟨hk.2,hk'.2⟩];refine⟨λhf hv=>?_,λht=>by rw[i1.2 ht,i2.2 ht]⟩;rw[axP]at hv ⊢;exact hv.imp (i1.1 hf) (i2.1 hf)
  rw[if_neg h7,if_neg h7];by_cases h8:(nodeAt q a).1=8
  .have hm:=amR h ha (by unfold jP;simp[h8]);unfold iY;simp only[h8];refine⟨λhf hv=>?_,λht=>?_⟩
   .rw[hf]at hm;exact hp _ hm _ hv
   .rw[ht]at hm;exact hn _ hm _
  by_cases h9:(nodeAt q a).1=9
  .have hm:=amR h ha (by unfold jP;simp[h9]);unfold iY;simp only[h9];refine⟨λhf hv=>?_,λht=>?_⟩
   .rw[hf]at hm;have hv:(!((f.2.2.2.1==0))&&X (nodeAt q a).2.2.2.1 f.2.2.2.1)=true:=hv;rw[awP]at hv;show(!((f.2.2.2.1==0))&&Y (nodeAt q a).2.2.2.1 f.2.2.2.1)=true;rw[awP];exact⟨hv.1,hp _ hm _ hv.2⟩
   .rw[ht]at hm;show(!((f.2.2.2.1==0))&&X (nodeAt q a).2.2.2.1 f.2.2.2.1)=(!((f.2.2.2.1==0))&&Y (nodeAt q a).2.2.2.1 f.2.2.2.1);rw[hn _ hm]
  .have:iY (nodeAt q a) f X=iY (nodeAt q a) f Y:=by unfold iY;rw[awS.2 h8,awS.2 h9];rfl
   rw[this];exact⟨λ_=>id,λ_=>rfl⟩
theorem Rz{q:List bI}{f:aF}{X Y:BX}(hp:∀s∈fJ q false,∀x,X s x=true->Y s x=true)(hn:∀s∈fJ q true,∀x,X s x=Y s x)(hm:iH q f X=true):iH q f Y=true:=by unfold iH at hm ⊢;rw[awP]at hm ⊢;have hl:=xu hm.1;exact⟨hm.1,(arQ hm.1 hp hn _ (by omega)).1 (apw hm.1) hm.2⟩
theorem acs{fs:List aF}{q:List bI}{X:BX}{x:Int}:(x,())∈sel fs q X↔∃f∈fs,f.1=x/\iH q f X=true:=by
 unfold sel;rw[axX];constructor
 .rintro⟨f,hf,e⟩;rw[axF]at hf;exact⟨f,hf.1,congrArg Prod.fst e,hf.2⟩
 .rintro⟨f,hf,rfl,hm⟩;exact⟨f,axF.2 ⟨hf,hm⟩,rfl⟩
theorem abT{fs:List aF}{q:List bI}{X Y:BX}(h:∀b,∀s∈fJ q b,∀x,X s x=Y s x):sel fs q X=sel fs q Y:=by unfold sel;congr 1;apply azM;intro f _;rw[axf];exact⟨Rz (λs hs x hx=>by rw[← h false s hs x];exact hx) (λs hs x=>h true s hs x),Rz (λs hs x hx=>by rw[h false s hs x];exact hx) (λs hs x=>(h true s hs x).symm)⟩
def TR(fs:List aF)(d:List aV):Sys Bytes Int where
 T:=λs X x=>∃i,i<d.length/\(dN d i).1=s/\(x,())∈sel fs (dN d i).2.1 X
 pos:=λs t=>∃i,i<d.length/\(dN d i).1=s/\t∈fJ (dN d i).2.1 false
 neg:=λs t=>∃i,i<d.length/\(dN d i).1=s/\t∈fJ (dN d i).2.1 true
 mono:=λs X Y hp hn x⟨i,hi,e,hx⟩=>⟨i,hi,e,by obtain⟨f,hf,e2,hm⟩:=acs.1 hx;exact acs.2 ⟨f,hf,e2,Rz (λt ht=>hp t ⟨i,hi,e,ht⟩) (λt ht=>hn t ⟨i,hi,e,ht⟩) hm⟩⟩
end Sp
namespace Go.Fw
open Go
end Go.Fw
namespace Go.Fw
open Go
theorem bU{p:Prop}[Decidable p]{A B:Prop}(h:p)(a:A):cond (decide p) A B:=by rw[aw0 h];exact a
theorem bV{p:Prop}[Decidable p]{A B:Prop}(h:¬p)(b:B):cond (decide p) A B:=by rw[aw1 h];exact b
theorem je{B:((Int×Unit)×Unit->Prop)->((Int×Unit)×Unit->Nat)->(Int×Unit)×Unit->Prop}(len:Nat)(hlen:len<=9223372036854775807)(J:Nat->Prop)(h0:J 0)
 (hstep:∀I μ(n:Nat),n<len->J n->(J (n+1)->I ((IntKind.i64.wrap ((n:Int)+1),()),())/\μ ((IntKind.i64.wrap ((n:Int)+1),()),())<μ (((n:Int),()),()))->B I μ (((n:Int),()),()))
 (hend:∀I μ,J len->B I μ (((len:Int),()),())):∃I,∃μ,I (((0:Int),()),())/\∀y,I y->B I μ y:=by
 refine⟨λy=>∃n:Nat,y.1.1=n/\n<=len/\J n,λy=>((len:Int)-y.1.1).toNat,⟨0,rfl,axp _,h0⟩,?_⟩;rintro⟨⟨_,⟨⟩⟩,⟨⟩⟩ ⟨n,rfl,hn,hJ⟩;rcases aw8 n len with h|h
 .refine hstep _ _ n h hJ λhJ'=>?_;have e:IntKind.i64.wrap ((n:Int)+1)=((n+1:Nat):Int):=fQ _ (by omega);rw[e];exact⟨⟨n+1,rfl,h,hJ'⟩,by show((len:Int)-(n+1:Nat)).toNat<((len:Int)-n).toNat;omega⟩
 .have:n=len:=by omega
  subst this;exact hend _ _ hJ
theorem bZ{Y S:Type}(mk:Int->S->Y)(idx:Y->Int)(hidx:∀i s,idx (mk i s)=i){B:(Y->Prop)->(Y->Nat)->Y->Prop}(len:Nat)(hlen:len<=9223372036854775807)(J:Nat->S->Prop){s0:S}(h0:J 0 s0)
 (hstep:∀I μ(n:Nat)(s:S),n<len->J n s->(∀s',J (n+1) s'->I (mk (IntKind.i64.wrap ((n:Int)+1)) s')/\μ (mk (IntKind.i64.wrap ((n:Int)+1)) s')<μ (mk n s))->B I μ (mk n s))
 (hend:∀I μ s,J len s->B I μ (mk len s)):∃I,∃μ,I (mk 0 s0)/\∀y,I y->B I μ y:=by
 refine⟨λy=>∃(n:Nat)(s:S),y=mk n s/\n<=len/\J n s,λy=>((len:Int)-idx y).toNat,⟨0,s0,rfl,axp _,h0⟩,?_⟩;rintro _ ⟨n,s,rfl,hn,hJ⟩;rcases aw8 n len with h|h
 .refine hstep _ _ n s h hJ λs' hJ'=>?_;have e:IntKind.i64.wrap ((n:Int)+1)=((n+1:Nat):Int):=fQ _ (by omega);rw[e];refine⟨⟨n+1,s',rfl,h,hJ'⟩,?_⟩;show((len:Int)-idx (mk (n+1:Nat) s')).toNat<((len:Int)-idx (mk n s)).toNat;rw[hidx,hidx];omega
 .have:n=len:=by omega
  subst this;exact hend _ _ s hJ
theorem zC{len:Nat}{f:Nat->Bool}{n:Nat}(hn:n<len)(h:f n=false):Sp.jK len f=false:=by unfold Sp.jK;rw[List.all_eq_false];exact⟨n,axN.2 hn,by rw[h];simp⟩
theorem mr{len:Nat}{f:Nat->Bool}(h:∀i,i<len->f i=true):Sp.jK len f=true:=by unfold Sp.jK;rw[axk];exactλi hi=>h i (axN.1 hi)
theorem adZ{len:Nat}{f:Nat->Bool}:Sp.jK len f=true↔∀i,i<len->f i=true:=by unfold Sp.jK;rw[axk];exact⟨λh i hi=>h i (axN.2 hi),λh i hi=>h i (axN.1 hi)⟩
theorem eY{n:Nat}{f:Nat->Bool}(h:∀i,i<n->f i=true)(hn:f n=true):∀i,i<n+1->f i=true:=λi hi=>by
 rcases aw8 i n with h'|h'
 .exact h i h'
 .have:i=n:=by omega
  rw[this];exact hn
theorem dY{b:Bool}(h:(!b)=true):b=false:=by cases b<;>first|rfl|cases h
theorem dw{b:Bool}(h:(!b)=false):b=true:=by cases b<;>first|rfl|cases h
theorem gI{p:Prop}[Decidable p](h:decide p=true):p:=ax8 h
theorem gY{p:Prop}[Decidable p](h:decide p=false):¬p:=of_decide_eq_false h
theorem xG{n:Nat}(h:0<n)(hn:n<=9223372036854775807):IntKind.i64.wrap ((n:Int)-1)=((n-1:Nat):Int):=by rw[fQ _ (by omega)];omega
theorem QO{α:Type}{d:α}{a b:List α}(hl:a.length=b.length)(h:∀i,i<a.length->a.getD i d=b.getD i d):a=b:=by refine ay3 hl λi h1 h2=>?_;have:=h i h1;rw[awR,awR,awV h1,awV h2]at this;simpa using this
theorem VB{α β:Type}(e:α->α->Bool)(he:∀x y,e x y=false↔x=y)(d:α)(a b:List α)(t:β)(hlen:a.length<=9223372036854775807)(hl:a.length=b.length){K:Bool×Unit->Prop}(hF:a≠b->K (false,()))(hT:a=b->K (true,())):
 ∃(I:(Int×Unit)×Unit->Prop),∃(μ:(Int×Unit)×Unit->Nat),I (((0:Int),()),())/\∀(y:(Int×Unit)×Unit),I y->
  bif decide (y.fst.fst<(a.length:Int))then
   ((0:Int)<=y.fst.fst/\y.fst.fst<(a.length:Int))/\((0:Int)<=y.fst.fst/\y.fst.fst<(b.length:Int))/\
     (bif e (a.getD (Int.toNat y.fst.fst) d) (b.getD (Int.toNat y.fst.fst) d)then K (false,())
     else t=t/\I ((IntKind.i64.wrap (y.fst.fst+(1:Int)),()),())/\μ ((IntKind.i64.wrap (y.fst.fst+(1:Int)),()),())<μ y)
  else K (true,()):=by
 refine je a.length hlen (λn=>∀i,i<n->a.getD i d=b.getD i d) (λi hi=>by omega) (λI μ n hn hJ next=>?_) λI μ hJ=>(by dsimp only;exact bV (by omega) (hT (QO hl hJ)));dsimp only;refine bU (by omega) ⟨⟨by omega,by omega⟩,⟨by omega,by omega⟩,af (λh=>hF λh'=>?_) λh=>⟨rfl,next λi hi=>?_⟩⟩
 .subst h';have:=(he (a.getD n d) (a.getD n d)).2 rfl;have h:e (a.getD n d) (a.getD n d)=true:=h;rw[this]at h;cases h
 .rcases aw8 i n with h'|h'
  .exact hJ i h'
  .have:i=n:=by omega
   rw[this];exact(he _ _).1 h
theorem aeM{α β:Type}(e:α->α->Bool)(he:∀x y,e x y=false↔x=y)(d:α)(a b:List α)(t:β)(hlen:a.length<=9223372036854775807)(hl:a.length=b.length){K:Bool×Unit->Prop}(hF:a≠b->K (false,()))(hT:a=b->K (true,())):
 ∃(I:(Int×Unit)×Unit->Prop),∃(μ:(Int×Unit)×Unit->Nat),I (((0:Int),()),())/\∀(y:(Int×Unit)×Unit),I y->
  bif decide (y.fst.fst<(a.length:Int))then
   ((0:Int)<=y.fst.fst/\y.fst.fst<(a.length:Int))/\((0:Int)<=y.fst.fst/\y.fst.fst<(b.length:Int))/\True/\
     (bif e (a.getD (Int.toNat y.fst.fst) d) (b.getD (Int.toNat y.fst.fst) d)then K (false,())
     else t=t/\I ((IntKind.i64.wrap (y.fst.fst+(1:Int)),()),())/\μ ((IntKind.i64.wrap (y.fst.fst+(1:Int)),()),())<μ y)
  else K (true,()):=by
 refine je a.length hlen (λn=>∀i,i<n->a.getD i d=b.getD i d) (λi hi=>by omega) (λI μ n hn hJ next=>?_) λI μ hJ=>(by dsimp only;exact bV (by omega) (hT (QO hl hJ)));dsimp only;refine bU (by omega) ⟨⟨by omega,by omega⟩,⟨by omega,by omega⟩,trivial,af (λh=>hF λh'=>?_) λh=>⟨rfl,next λi hi=>?_⟩⟩
 .subst h';have:=(he (a.getD n d) (a.getD n d)).2 rfl;have h:e (a.getD n d) (a.getD n d)=true:=h;rw[this]at h;cases h
 .rcases aw8 i n with h'|h'
  .exact hJ i h'
  .have:i=n:=by omega
   rw[this];exact(he _ _).1 h
end Go.Fw
namespace Sp
open Go Go.Fw
theorem aaC{name:Bytes}:∀(s:List fD)(n:Nat),n<s.length->(∀i,i<n->(s.getD i ([],0,())).1≠name)->(s.getD n ([],0,())).1=name->kindOf s name=(s.getD n ([],0,())).2.1
 |[],n,h,_,_=>by simp at h
 |f::r,0,_,_,he=>by
  have he:f.1=name:=he;show(bif decide (f.1=name)then f.2.1 else kindOf r name)=f.2.1;rw[aw0 he];rfl
 |f::r,n+1,h,hne,he=>by have h0:f.1≠name:=hne 0 (by omega);show(bif decide (f.1=name)then f.2.1 else kindOf r name)=_;rw[aw1 h0];exact aaC r n (by simpa using h) (λi hi=>hne (i+1) (by omega)) he
theorem Uk{name:Bytes}:∀(s:List fD),(∀i,i<s.length->(s.getD i ([],0,())).1≠name)->kindOf s name=0
 |[],_=>rfl
 |f::r,hne=>by have h0:f.1≠name:=hne 0 (by simp);show(bif decide (f.1=name)then f.2.1 else kindOf r name)=_;rw[aw1 h0];exact Uk r λi hi=>hne (i+1) (by simp;omega)
theorem abU{id:Int}:∀(s:List aF)(k:Int)(n:Nat),n<s.length->(∀i,i<n->(fileAt s i).1≠id)->(fileAt s n).1=id->rq k s id=k+n
 |[],_,n,h,_,_=>by simp at h
 |f::r,k,0,_,_,he=>by
  have he:f.1=id:=he;show(bif decide (f.1=id)then k else rq (k+1) r id)=_;rw[aw0 he];simp
 |f::r,k,n+1,h,hne,he=>by have h0:f.1≠id:=hne 0 (by omega);show(bif decide (f.1=id)then k else rq (k+1) r id)=_;rw[aw1 h0];show rq (k+1) r id=_;rw[abU r (k+1) n (by simpa using h) (λi hi=>hne (i+1) (by omega)) he];omega
theorem Wj{id:Int}:∀(s:List aF)(k:Int),(∀i,i<s.length->(fileAt s i).1≠id)->rq k s id=-1
 |[],_,_=>rfl
 |f::r,k,hne=>by have h0:f.1≠id:=hne 0 (by simp);show(bif decide (f.1=id)then k else rq (k+1) r id)=_;rw[aw1 h0];exact Wj r (k+1) λi hi=>hne (i+1) (by simp;omega)
theorem MV{id:Int}{s:List aF}{n:Nat}(h:n<s.length)(hne:∀i,i<n->(fileAt s i).1≠id)(he:(fileAt s n).1=id):place s id=n:=by unfold place;rw[abU s 0 n h hne he];omega
theorem Xd{id:Int}{s:List aF}(hne:∀i,i<s.length->(fileAt s i).1≠id):place s id=-1:=Wj s 0 hne
theorem lI(s:List aF)(id:Int):(place s id=-1/\∀i,i<s.length->(fileAt s i).1≠id)\/∃n,n<s.length/\place s id=n/\(fileAt s n).1=id/\∀i,i<n->(fileAt s i).1≠id:=by
 by_cases h:∃n,n<s.length/\(fileAt s n).1=id
 .obtain⟨n,h1,h2,h3⟩:=(least s.length (p:=λn=>(fileAt s n).1=id) h);exact .inr ⟨n,h1,MV h1 (λi hi=>h3 i hi) h2,h2,λi hi=>h3 i hi⟩
 .have hne:∀i,i<s.length->(fileAt s i).1≠id:=λi hi e=>h ⟨i,hi,e⟩;exact .inl ⟨Xd hne,hne⟩
theorem YM:∀(a b:List aF)(k:Int)(id:Int),a.map (·.1)=b.map (·.1)->rq k a id=rq k b id
 |[],[],_,_,_=>rfl
 |[],_::_,_,_,h=>by simp at h
 |_::_,[],_,_,h=>by simp at h
 |f::a,g::b,k,id,h=>by
  simp only[axm,List.cons.injEq]at h;show(bif decide (f.1=id)then k else rq (k+1) a id)=bif decide (g.1=id)then k else rq (k+1) b id
  rw[h.1,YM a b (k+1) id h.2]
theorem aqs{a b:List aF}(id:Int)(h:a.map (·.1)=b.map (·.1)):place a id=place b id:=YM a b 0 id h
theorem adR{s:List fD}{n:Nat}(h:n<s.length)(hn:lK s n=false):fO s=false:=by unfold fO;rw[zC h hn];rfl
theorem apx{fs:List fD}{s:List aS}{n:Nat}(h:n<s.length)(hn:kM fs s n=false):iy fs s=false:=zC h hn
theorem aki{fs:List fD}{f:aF}{n:Nat}(h:n<f.2.2.2.2.1.length)(hn:kM fs f.2.2.2.2.1 n=false):bT fs f=false:=by unfold bT;rw[apx h hn];rfl
theorem agB{s:bP}{n:Nat}(h:n<s.2.1.length)(hn:kZ s n=false):aC s=false:=by unfold aC;rw[zC h hn];rfl
theorem kN{s:bP}{i:Nat}:kZ s i=true↔bT s.1 (fileAt s.2.1 i)=true/\(fileAt s.2.1 i).1<s.2.2.1/\(0<i->(fileAt s.2.1 (i-1)).1<(fileAt s.2.1 i).1):=by
 unfold kZ;rw[awP,awP,axj,and_assoc];refine azz λ_=>azz λ_=>?_;by_cases h:0<i
 .simp[h]
 .simp[h]
theorem jU{s:bP}:aC s=true↔(∀i,i<s.2.1.length->kZ s i=true)/\fO s.1=true/\s.2.1.length<=12/\1<=s.2.2.1/\s.2.2.1<=61:=by
 unfold aC;rw[awP,awP,awP,awP,axj,axj,axj,adZ];constructor
 .rintro⟨⟨⟨h1,h2⟩,h3⟩,h4,h5⟩;exact⟨h1,h2,by omega,h4,h5⟩
 .rintro⟨h1,h2,h3,h4,h5⟩;exact⟨⟨⟨h1,h2⟩,by omega⟩,h4,h5⟩
theorem aqS{fs:List fD}{f:aF}(h:bT fs f=true):1<=f.1/\f.1<=60:=by unfold bT at h;simp only[awP,axj]at h;exact h.1.1.2
theorem UQ{fs:List aF}{g:aF}{i:Nat}(h:i<fs.length):fileAt (fs++[g]) i=fileAt fs i:=by unfold fileAt;rw[awR,axq h,← awR]
theorem anD{fs:List aF}{g:aF}:fileAt (fs++[g]) fs.length=g:=by unfold fileAt;rw[awR,axl (aw7 _)];simp
theorem amS{s:bP}{g:aF}(h:aC s=true)(hl:s.2.1.length<12)(hg:bT s.1 g=true)(hid:g.1=s.2.2.1):aC (s.1,s.2.1++[g],s.2.2.1+1,())=true:=by
 obtain⟨h1,h2,h3,h4,h5⟩:=jU.1 h;have hg1:=aqS hg;refine jU.2 ⟨λi hi=>?_,h2,by show(s.2.1++[g]).length<=12;simp;omega,by show 1<=s.2.2.1+1;omega,by show s.2.2.1+1<=61;omega⟩;have hi:i<(s.2.1++[g]).length:=hi;rw[awW,awU,awY]at hi;refine kN.2 ?_;show bT s.1 (fileAt (s.2.1++[g]) i)=true/\(fileAt (s.2.1++[g]) i).1<s.2.2.1+1/\(0<i->(fileAt (s.2.1++[g]) (i-1)).1<(fileAt (s.2.1++[g]) i).1);rcases aw8 i s.2.1.length with hlt|hge
 .obtain⟨k1,k2,k3⟩:=kN.1 (h1 i hlt);rw[UQ hlt];refine⟨k1,by omega,λh0=>?_⟩;rw[UQ (by omega)];exact k3 h0
 .have e:i=s.2.1.length:=by omega
  subst e;rw[anD];refine⟨hg,by omega,λh0=>?_⟩;rw[UQ (by omega)];have:=(kN.1 (h1 (s.2.1.length-1) (by omega))).2.1;omega
theorem o5(s:bP)(f:aF):(dD s f=(s,0,false)/\¬(aC s=true/\s.2.1.length<12/\bT s.1 (s.2.2.1,f.2)=true))\/
 (aC s=true/\s.2.1.length<12/\bT s.1 (s.2.2.1,f.2)=true/\dD s f=((s.1,s.2.1++[(s.2.2.1,f.2)],s.2.2.1+1,()),s.2.2.1,true)):=by
 by_cases h:aC s=true/\s.2.1.length<12/\bT s.1 (s.2.2.1,f.2)=true
 .right;refine⟨h.1,h.2.1,h.2.2,?_⟩;unfold dD;dsimp only;rw[h.1,h.2.2,aw0 (by omega)];rfl
 .left;refine⟨?_,h⟩;have:(aC s&&decide ((s.2.1.length:Int)<12)&&bT s.1 (s.2.2.1,f.2))=false:=by
   cases hb:(aC s&&decide ((s.2.1.length:Int)<12)&&bT s.1 (s.2.2.1,f.2))with
   |false=>rfl
   |true=>simp only[awP,axj]at hb;exact(h ⟨hb.1.1,by omega,hb.2⟩).elim
  unfold dD;dsimp only;rw[this];rfl
theorem ai1{s:bP}(f:aF)(h:aC s=true):aC (dD s f).1=true:=by
 rcases o5 s f with⟨e,_⟩|⟨h1,h2,h3,e⟩
 .rw[e];exact h
 .rw[e];exact amS h1 h2 h3 rfl
theorem akT{s:bP}{f:aF}(h:bn s)(hf:bY f):bn (dD s f).1:=by
 rcases o5 s f with⟨e,_⟩|⟨h1,h2,h3,e⟩
 .rw[e];exact h
 .rw[e];refine⟨h.1,by show(s.2.1++[(s.2.2.1,f.2)]).length<=1000;simp;omega,λg hg=>?_⟩;have hg:g∈s.2.1++[(s.2.2.1,f.2)]:=hg;rcases axb.1 hg with hg|hg
  .exact h.2.2 g hg
  .have:g=(s.2.2.1,f.2):=by simpa using hg
   subst this;exact hf
theorem yw(s:bP)(id:Int):(fM s id=(s,false)/\¬(aC s=true/\0<=place s.2.1 id))\/
 ∃n,n<s.2.1.length/\place s.2.1 id=n/\aC s=true/\fM s id=((s.1,s.2.1.eraseIdx n,s.2.2.1,()),true):=by
 rcases lI s.2.1 id with⟨h,_⟩|⟨n,hn,h,_,_⟩
 .left;refine⟨?_,λh'=>by omega⟩;unfold fM;rw[h];simp
 .cases ho:aC s with
  |false=>
   left;refine⟨?_,λh'=>by cases h'.1⟩;unfold fM;rw[ho];rfl
  |true=>right;refine⟨n,hn,h,rfl,?_⟩;unfold fM;rw[ho,h,aw1 (by omega),awX];rfl
theorem abV{fs:List aF}{n i:Nat}:fileAt (fs.eraseIdx n) i=if i<n then fileAt fs i else fileAt fs (i+1):=by unfold fileAt;rw[awR,List.getElem?_eraseIdx];split<;>rw[awR]
theorem ak9{s:bP}{n:Nat}(h:aC s=true)(hn:n<s.2.1.length):aC (s.1,s.2.1.eraseIdx n,s.2.2.1,())=true:=by
 obtain⟨h1,h2,h3,h4,h5⟩:=jU.1 h;have hlen:(s.2.1.eraseIdx n).length=s.2.1.length-1:=azb hn;refine jU.2 ⟨λi hi=>?_,h2,by show(s.2.1.eraseIdx n).length<=12;omega,h4,h5⟩;have hi:i<(s.2.1.eraseIdx n).length:=hi;refine kN.2 ?_;show bT s.1 (fileAt (s.2.1.eraseIdx n) i)=true/\(fileAt (s.2.1.eraseIdx n) i).1<s.2.2.1/\(0<i->(fileAt (s.2.1.eraseIdx n) (i-1)).1<(fileAt (s.2.1.eraseIdx n) i).1);rw[abV,abV];rcases aw8 i n with hlt|hge
 .rw[if_pos hlt];obtain⟨k1,k2,k3⟩:=kN.1 (h1 i (by omega));refine⟨k1,k2,λh0=>?_⟩;rw[if_pos (by omega)];exact k3 h0
 .rw[if_neg (by omega)];obtain⟨k1,k2,k3⟩:=kN.1 (h1 (i+1) (by omega));refine⟨k1,k2,λh0=>?_⟩;have k3:=k3 (by omega);rw[azn]at k3;split
  .have:=(kN.1 (h1 i (by omega))).2.2 h0;omega
  .rw[show i-1+1=i by omega];exact k3
theorem ai2{s:bP}(id:Int)(h:aC s=true):aC (fM s id).1=true:=by
 rcases yw s id with⟨e,_⟩|⟨n,hn,_,ho,e⟩
 .rw[e];exact h
 .rw[e];exact ak9 ho hn
theorem akU{s:bP}(id:Int)(h:bn s):bn (fM s id).1:=by
 rcases yw s id with⟨e,_⟩|⟨n,hn,_,ho,e⟩
 .rw[e];exact h
 .rw[e];refine⟨h.1,?_,λg hg=>h.2.2 g (List.mem_of_mem_eraseIdx hg)⟩;show(s.2.1.eraseIdx n).length<=1000;have:=h.2.1;rw[azb hn];omega
theorem iC(s:bP)(f:aF):(aQ s f=(s,false)/\¬(aC s=true/\0<=place s.2.1 f.1/\bT s.1 f=true))\/
 ∃n,n<s.2.1.length/\place s.2.1 f.1=n/\aC s=true/\bT s.1 f=true/\aQ s f=((s.1,s.2.1.set n f,s.2.2.1,()),true):=by
 rcases lI s.2.1 f.1 with⟨h,_⟩|⟨n,hn,h,_,_⟩
 .left;refine⟨?_,λh'=>by omega⟩;unfold aQ;rw[h];simp
 .cases ho:aC s with
  |false=>
   left;refine⟨?_,λh'=>by cases h'.1⟩;unfold aQ;rw[ho];rfl
  |true=>
   cases hf:bT s.1 f with
   |false=>
    left;refine⟨?_,λh'=>by cases h'.2.2⟩;unfold aQ;rw[hf,axx];rfl
   |true=>right;refine⟨n,hn,h,rfl,rfl,?_⟩;unfold aQ;rw[ho,hf,h,aw1 (by omega),awX];rfl
theorem Nj{s:bP}{f:aF}(h:bn s)(hf:bY f):bn (aQ s f).1:=by
 rcases iC s f with⟨e,_⟩|⟨n,hn,_,ho,_,e⟩
 .rw[e];exact h
 .rw[e];refine⟨h.1,by show(s.2.1.set n f).length<=1000;rw[axe];exact h.2.1,λg hg=>?_⟩;rcases azi hg with hg|rfl
  .exact h.2.2 g hg
  .exact hf
theorem P6{s:List aF}{f:aF}(h:f∈s):∃i,i<s.length/\fileAt s i=f:=by obtain⟨i,hi,rfl⟩:=axu h;refine⟨i,hi,?_⟩;unfold fileAt;rw[awR,awV hi];rfl
theorem P7{s:List aF}{i:Nat}(h:i<s.length):fileAt s i∈s:=getD_mem h
theorem aqT(s:List aF)(id:Int):place s id<0↔∀f∈s,f.1≠id:=by
 rcases lI s id with⟨h,h2⟩|⟨n,hn,h,h2,_⟩
 .refine⟨λ_ f hf=>?_,λ_=>by omega⟩;obtain⟨i,hi,rfl⟩:=P6 hf;exact h2 i hi
 .refine⟨λh'=>by omega,λh'=>(h' _ (P7 hn) h2).elim⟩
theorem LV(s:bP)(id:Int):(aj s id).2=!decide (place s.2.1 id<0):=by unfold aj;cases decide (place s.2.1 id<0)<;>rfl
theorem ajH(s:bP)(id:Int):(aj s id).2=true↔∃f∈s.2.1,f.1=id:=by
 rw[LV,ayV,axT,aqT];constructor
 .intro h;refine axr λhno=>h λf hf e=>hno ⟨f,hf,e⟩
 .rintro⟨f,hf,e⟩ h;exact h f hf e
theorem aie{s:bP}(h:aC s=true):∀(j i:Nat),i<j->j<s.2.1.length->(fileAt s.2.1 i).1<(fileAt s.2.1 j).1
 |0,i,hi,_=>by omega
 |j+1,i,hi,hj=>by
  have h1:=(kN.1 ((jU.1 h).1 (j+1) hj)).2.2 (by omega);rw[azn]at h1;rcases aw8 i j with h2|h2
  .have:=aie h j i h2 (by omega);omega
  .have:i=j:=by omega
   rw[this];exact h1
theorem ajl{s:bP}(h:aC s=true){f g:aF}(hf:f∈s.2.1)(hg:g∈s.2.1)(e:f.1=g.1):f=g:=by
 obtain⟨i,hi,rfl⟩:=P6 hf;obtain⟨j,hj,rfl⟩:=P6 hg;rcases ayW i j with h1|h1|h1
 .have:=aie h j i h1 hj;omega
 .rw[h1]
 .have:=aie h i j h1 hi;omega
theorem EW{s:bP}(u:Int)(h:bn s):bn (visible s u):=by
 obtain⟨h0,h1,h2⟩:=h;refine⟨h0,?_,λf hf=>?_⟩
 .show((s.2.1.filter (iR · u)).map _).length<=1000;rw[aw4];have:=axh (iR · u) s.2.1;omega
 .have hf:f∈(s.2.1.filter (iR · u)).map (unlink (s.2.1.filter (iR · u))):=hf;obtain⟨g,hg,rfl⟩:=axX.1 hf;exact h2 g (axF.1 hg).1
theorem QI{α:Type}{p:α->Bool}{d:α}:∀(l:List α)(n:Nat),n<=l.length->(∀i,i<n->p (l.getD i d)=true)->(n<l.length->p (l.getD n d)=false)->l.takeWhile p=l.take n/\l.dropWhile p=l.drop n
 |[],n,h,_,_=>by simp
 |x::r,0,_,_,h=>by
  have h:p x=false:=h (by simp);constructor<;>simp[h]
 |x::r,n+1,hn,h1,h2=>by have h0:p x=true:=h1 0 (by omega);have:=QI r n (by simpa using hn) (λi hi=>h1 (i+1) (by omega)) λhlt=>h2 (by simpa using hlt);constructor<;>simp[h0,this.1,this.2]
theorem aif{fs:List aF}{n i:Nat}{f:aF}(hn:n<fs.length):fileAt (fs.set n f) i=if n=i then f else fileAt fs i:=by
 unfold fileAt;rw[awR,ayX,awR];split
 .rfl
 .rfl
theorem anE{s:bP}{n:Nat}{f:aF}(h:aC s=true)(hn:n<s.2.1.length)(hf:bT s.1 f=true)(he:(fileAt s.2.1 n).1=f.1):aC (s.1,s.2.1.set n f,s.2.2.1,())=true:=by
 obtain⟨h1,h2,h3,h4,h5⟩:=jU.1 h;have hid:∀i,(fileAt (s.2.1.set n f) i).1=(fileAt s.2.1 i).1:=λi=>by
  rw[aif hn];split
  · rename_i e;rw[← e,he]
  .rfl
 refine jU.2 ⟨λi hi=>?_,h2,by show(s.2.1.set n f).length<=12;rw[axe];exact h3,h4,h5⟩;have hi:i<(s.2.1.set n f).length:=hi;rw[axe]at hi;obtain⟨k1,k2,k3⟩:=kN.1 (h1 i hi);refine kN.2 ?_;show bT s.1 (fileAt (s.2.1.set n f) i)=true/\(fileAt (s.2.1.set n f) i).1<s.2.2.1/\(0<i->(fileAt (s.2.1.set n f) (i-1)).1<(fileAt (s.2.1.set n f) i).1);rw[hid,hid];refine⟨?_,k2,k3⟩;rw[aif hn];split
 .exact hf
 .exact k1
theorem Lp{s:bP}(f:aF)(h:aC s=true):aC (aQ s f).1=true:=by
 rcases iC s f with⟨e,_⟩|⟨n,hn,hp,ho,hf,e⟩
 .rw[e];exact h
 .rw[e];refine anE ho hn hf ?_;rcases lI s.2.1 f.1 with⟨h',_⟩|⟨m,hm,h',h2,_⟩
  .omega
  .rw[← h2,show n=m by omega]
theorem Fe{s:bP}{id:Int}(h:(aj s id).2=true):(aj s id).1∈s.2.1/\(aj s id).1.1=id:=by
 rw[LV,ayV,axT]at h;rcases lI s.2.1 id with⟨h',_⟩|⟨n,hn,h',h2,_⟩
 .omega
 .have e:(aj s id).1=fileAt s.2.1 n:=by unfold aj;rw[aw1 h,h',awX];rfl
  rw[e];exact⟨P7 hn,h2⟩
theorem abW{s:bP}{f:aF}(h:aC s=true)(hf:f∈s.2.1):aj s f.1=(f,true):=by have h2:(aj s f.1).2=true:=(ajH s f.1).2 ⟨f,hf,rfl⟩;obtain⟨h3,h4⟩:=Fe h2;exact ayK (ajl h h3 hf h4) h2
theorem ala{s:bP}{f:aF}(h:(aQ s f).2=true):aj (aQ s f).1 f.1=(f,true)/\aC (aQ s f).1=true:=by
 rcases iC s f with⟨e,_⟩|⟨n,hn,hp,ho,hf,e⟩
 .rw[e]at h;cases h
 .have h4:=Lp f ho;rw[e]at h4 ⊢;exact⟨abW h4 (ayH.2 ⟨n,by simpa using hn,by simp⟩),h4⟩
end Sp
namespace Sp
open Go Go.Fw
theorem ad5{α:Type}{p:α->Bool}{d:α}:∀(s:List α)(k:Int)(n:Nat),n<s.length->(∀i,i<n->p (s.getD i d)=false)->p (s.getD n d)=true->Gq p k s=k+n
 |[],_,n,h,_,_=>by simp at h
 |f::r,k,0,_,_,he=>by
  have he:p f=true:=he;show(bif p f then k else Gq p (k+1) r)=_;rw[he];simp
 |f::r,k,n+1,h,hne,he=>by have h0:p f=false:=hne 0 (by omega);show(bif p f then k else Gq p (k+1) r)=_;rw[h0];show Gq p (k+1) r=_;rw[ad5 r (k+1) n (by simpa using h) (λi hi=>hne (i+1) (by omega)) he];omega
theorem YN{α:Type}{p:α->Bool}{d:α}:∀(s:List α)(k:Int),(∀i,i<s.length->p (s.getD i d)=false)->Gq p k s=-1
 |[],_,_=>rfl
 |f::r,k,hne=>by have h0:p f=false:=hne 0 (by simp);show(bif p f then k else Gq p (k+1) r)=_;rw[h0];exact YN r (k+1) λi hi=>hne (i+1) (by simp;omega)
theorem akx{α:Type}{p:α->Bool}{d:α}{s:List α}{n:Nat}(h:n<s.length)(hne:∀i,i<n->p (s.getD i d)=false)(he:p (s.getD n d)=true):findAt p s=n:=by unfold findAt;rw[ad5 s 0 n h hne he];omega
theorem ad6{α:Type}{p:α->Bool}{d:α}{s:List α}(hne:∀i,i<s.length->p (s.getD i d)=false):findAt p s=-1:=YN s 0 hne
theorem Lu{α:Type}(p:α->Bool)(d:α)(s:List α):(findAt p s=-1/\∀i,i<s.length->p (s.getD i d)=false)\/∃n,n<s.length/\findAt p s=n/\p (s.getD n d)=true/\∀i,i<n->p (s.getD i d)=false:=by
 by_cases h:∃n,n<s.length/\p (s.getD n d)=true
 .obtain⟨n,h1,h2,h3⟩:=least s.length (p:=λn=>p (s.getD n d)=true) h;have h3:∀i,i<n->p (s.getD i d)=false:=λi hi=>by simpa using h3 i hi
  exact .inr ⟨n,h1,akx h1 h3 h2,h2,h3⟩
 .have hne:∀i,i<s.length->p (s.getD i d)=false:=λi hi=>by
   cases hp:p (s.getD i d)with
   |false=>rfl
   |true=>exact(h ⟨i,hi,hp⟩).elim
  exact .inl ⟨ad6 hne,hne⟩
theorem NI:∀a:Bytes,Op.bytesLess a a=false
 |[]=>rfl
 |x::a=>by show(decide (x<x)||(x==x&&Op.bytesLess a a))=false;rw[NI a,aw1 (UInt8.lt_irrefl x),axx];rfl
theorem XL:∀a b:Bytes,Op.bytesLess a b=false->a≠b->Op.bytesLess b a=true
 |[],[],_,h=>(h rfl).elim
 |x::a,[],_,_=>rfl
 |[],y::b,h,_=>by cases h
 |x::a,y::b,h,hne=>by
  have h:(decide (x<y)||(x==y&&Op.bytesLess a b))=false:=h;show(decide (y<x)||(y==x&&Op.bytesLess b a))=true;rw[ayk,axT]at h;by_cases e:x=y
  .subst e;have h2:Op.bytesLess a b=false:=by simpa using h.2
   rw[XL a b h2 (λe=>hne (by rw[e]))];simp
  .have:y<x:=by have h1:¬x.toNat<y.toNat:=λhh=>h.1 (azv.2 hh);have h2:x.toNat≠y.toNat:=λhh=>e (UInt8.toNat_inj.1 hh);exact azv.2 (by omega)
   rw[aw0 this];rfl
theorem aqU{x y:UInt8}{a b:Bytes}:Op.bytesLess (x::a) (y::b)=true↔x.toNat<y.toNat\/(x=y/\Op.bytesLess a b=true):=by show(decide (x<y)||(x==y&&Op.bytesLess a b))=true↔_;rw[axP,axj,awP,awZ,azv]
theorem AQ:∀a b c:Bytes,Op.bytesLess a b=true->Op.bytesLess b c=true->Op.bytesLess a c=true
 |_,[],_,h,_=>by cases h':(‹Bytes›:Bytes)<;>simp_all [Op.bytesLess]
 |_,_::_,[],_,h=>by cases h
 |[],_::_,_::_,_,_=>rfl
 |x::a,y::b,z::c,h1,h2=>by
  rw[aqU]at h1 h2 ⊢;rcases h1 with h1|⟨rfl,h1⟩
  .rcases h2 with h2|⟨rfl,h2⟩
   .exact .inl (by omega)
   .exact .inl h1
  .rcases h2 with h2|⟨rfl,h2⟩
   .exact .inl h2
   .exact .inr ⟨rfl,AQ a b c h1 h2⟩
theorem Dz{a b:Bytes}(h:Op.bytesLess a b=true):a≠b:=λe=>by rw[e,NI]at h;cases h
theorem apy{a b:Bytes}(h:Op.bytesLess a b=true):Op.bytesLess b a=false:=by
 cases hb:Op.bytesLess b a with
 |false=>rfl
 |true=>have:=AQ a b a h hb;rw[NI]at this;cases this
theorem XQ(a b:Bytes):(!(Op.bytesLess a b||a==b))=Op.bytesLess b a:=by
 cases h:Op.bytesLess a b with
 |true=>rw[apy h];rfl
 |false=>
  by_cases e:a=b
  .subst e;rw[NI];simp
  .rw[XL a b h e];simp[e]
end Sp
namespace Sp
open Go
def nameOf(d:List aV)(i:Nat):Bytes:=(dN d i).1
def dW(d:List aV)(i:Nat):List bI:=(dN d i).2.1
def tJ(r:List dI)(i:Nat):dI:=r.getD i ([],[],())
def iU(r:List dI)(i:Nat):List (Int×Unit):=(tJ r i).2.1
def kX(d:List aV)(aH:List (Int×Unit)):Prop:=
 aH.length=d.length/\(∀i,i<d.length->0<=lv aH i/\lv aH i<=d.length)/\(jo (dV d) λi=>(lv aH i).toNat)/\∀M,jo (dV d) M->∀i,i<d.length->lv aH i<=M i
theorem aa2{d:List aV}{a b:List (Int×Unit)}(h1:kX d a)(h2:kX d b):a=b:=by
 refine aqw (h1.1.trans h2.1.symm) λi hi=>?_;have hi:i<d.length:=by rw[← h1.1];exact hi
 have a1:=h1.2.2.2 _ h2.2.2.1 i hi;have a2:=h2.2.2.2 _ h1.2.2.1 i hi;have:=(h1.2.1 i hi).1;have:=(h2.2.1 i hi).1;omega
theorem agQ{d:List aV}(h:∃M,jo (dV d) M/\∀i,i<d.length->M i<d.length):∃s,kX d s:=by
 have hE:=lg d;have hmin:∀i,∃m,(∃M,jo (dV d) M/\M i=m)/\∀M,jo (dV d) M->m<=M i:=λi=>by
  obtain⟨M0,h0,_⟩:=h;have:∀n,(∃M,jo (dV d) M/\M i=n)->∃m,(∃M,jo (dV d) M/\M i=m)/\∀M,jo (dV d) M->m<=M i:=by
   intro n
   induction n using Nat.strongRecOn with
   |_ n ih=>
    intro hn;by_cases hl:∃M,jo (dV d) M/\M i<n
    .obtain⟨M,h1,h2⟩:=hl;exact ih _ h2 ⟨M,h1,rfl⟩
    .exact⟨n,hn,λM hM=>Nat.le_of_not_lt λhlt=>hl ⟨M,hM,hlt⟩⟩
  exact this (M0 i) ⟨M0,h0,rfl⟩
 obtain⟨L,hL⟩:=Classical.axiomOfChoice hmin;have hfix:jo (dV d) L:=λe he=>by obtain⟨⟨M,h1,h2⟩,_⟩:=hL e.1;have a:=(hL e.2.1).2 M h1;have b:=h1 e he;rw[← h2];omega
 have hlv:∀i,i<d.length->lv ((List.range d.length).map λi=>((L i:Int),())) i=L i:=λi hi=>by unfold lv;rw[awR,ax1,List.getElem?_range hi];rfl
 refine⟨(List.range d.length).map λi=>((L i:Int),()),by simp,λi hi=>?_,λe he=>?_,λM hM i hi=>?_⟩
 .rw[hlv i hi];obtain⟨M,h1,h2⟩:=h;have:=(hL i).2 M h1;have:=h2 i hi;omega
 .obtain⟨h1,h2,_⟩:=hE e he;have:=hfix e he;dsimp only;rw[hlv _ h1,hlv _ h2];omega
 .rw[hlv i hi];have:=(hL i).2 M hM;omega
def OI(d:List aV)(aH:List (Int×Unit))(s:Bytes):Nat:=(lv aH (aP d s).toNat).toNat
def due(d:List aV)(nm:Bytes->Bool)(s:Bytes):Prop:=nm s=true/\∃i,i<d.length/\nameOf d i=s
theorem aqV{d:List aV}(h:gm d=true){i:Nat}(hi:i<d.length):aZ (dW d i)=true/\(0<i->Op.bytesLess (nameOf d (i-1)) (nameOf d i)=true):=by
 unfold gm at h;rw[awP]at h;have h1:ny d i=true:=by have:=h.1;unfold jK at this;exact axk.1 this i (axN.2 hi)
 unfold ny at h1;rw[awP,awP]at h1;refine⟨h1.1.2,λh0=>?_⟩;have:=h1.2;rw[aw0 h0]at this;simpa[nameOf]using this
theorem ajI{d:List aV}(h:gm d=true):∀(j i:Nat),i<j->j<d.length->Op.bytesLess (nameOf d i) (nameOf d j)=true
 |0,i,hi,_=>by omega
 |j+1,i,hi,hj=>by
  have h1:=(aqV h hj).2 (by omega);rcases aw8 i j with h2|h2
  .exact AQ _ _ _ (ajI h j i h2 (by omega)) h1
  .have:i=j:=by omega
   subst this;exact h1
theorem JB{d:List aV}(h:gm d=true){i j:Nat}(hi:i<d.length)(hj:j<d.length)(e:nameOf d i=nameOf d j):i=j:=by
 rcases ayW i j with h1|h1|h1
 .exact(Dz (ajI h j i h1 hj) e).elim
 .exact h1
 .exact(Dz (ajI h i j h1 hi) e.symm).elim
theorem P8{d:List aV}(h:gm d=true){i:Nat}(hi:i<d.length):aP d (nameOf d i)=i:=by
 rcases sU d (nameOf d i)with⟨_,h2⟩|⟨n,h1,h2,h3,_⟩
 .refine(h2 (dN d i) ?_ rfl).elim;unfold dN;rw[awR,awV hi];exact ayb hi
 .rw[h2,JB h h1 hi h3]
theorem Bd{d:List aV}(h:gm d=true){aH:List (Int×Unit)}{i:Nat}(hi:i<d.length):OI d aH (nameOf d i)=(lv aH i).toNat:=by unfold OI;rw[P8 h hi];rfl
theorem JC{fs:List aF}{d:List aV}(h:gm d=true){aH:List (Int×Unit)}(hl:kX d aH)(nm:Bytes->Bool):aln (TR fs d) (due d nm) (OI d aH):=by
 intro s t _ ht;obtain⟨_,j,hj,rfl⟩:=ht;have edge:∀i,i<d.length->∀m b,(m=0/\b=false\/m=1/\b=true)->nameOf d j∈fJ (dW d i) b->(lv aH j).toNat+m<=(lv aH i).toNat:=λi hi m b hm hd=>by
  refine hl.2.2.1 (i,j,m) (Gi.2 ⟨hi,nameOf d j,?_,by rw[P8 h hj];omega,by rw[P8 h hj];rfl⟩);rcases hm with⟨a,b⟩|⟨a,b⟩
  .subst a b;exact .inl ⟨rfl,hd⟩
  .subst a b;exact .inr ⟨rfl,hd⟩
 refine⟨?_,?_⟩
 .rintro⟨i,hi,rfl,hd⟩;rw[show(dN d i).1=nameOf d i from rfl,Bd h hi,Bd h hj];exact edge i hi 0 false (.inl ⟨rfl,rfl⟩) hd
 .rintro⟨i,hi,rfl,hd⟩;rw[show(dN d i).1=nameOf d i from rfl,Bd h hi,Bd h hj];exact edge i hi 1 true (.inr ⟨rfl,rfl⟩) hd
def uM(d:List aV)(out:List dI):Prop:=out.length=d.length/\∀i,i<d.length->(tJ out i).1=nameOf d i
theorem Nz:∀{r:List dI}{s:Bytes},(∀i,i<r.length->(tJ r i).1≠s)->fF r s=[]
 |[],_,_=>rfl
 |x::r,s,h=>by have h0:x.1≠s:=h 0 (by simp);rw[fF,awS.2 h0];exact Nz λi hi=>h (i+1) (by simpa using hi)
theorem aaU:∀{r:List dI}{i:Nat},i<r.length->(∀j,j<i->(tJ r j).1≠(tJ r i).1)->fF r (tJ r i).1=iU r i
 |[],i,h,_=>by simp at h
 |x::r,0,_,_=>by
  show fF (x::r) x.1=x.2.1;rw[fF,awZ.2 rfl];rfl
 |x::r,i+1,h,hn=>by have h0:x.1≠(tJ r i).1:=hn 0 (by omega);show fF (x::r) (tJ r i).1=iU r i;rw[fF,awS.2 h0];exact aaU (by simpa using h) λj hj=>hn (j+1) (by omega)
theorem sV{d:List aV}(h:gm d=true){out:List dI}(ho:uM d out){i:Nat}(hi:i<d.length):fF out (nameOf d i)=iU out i:=by rw[← ho.2 i hi];refine aaU (by rw[ho.1];exact hi) λj hj e=>?_;rw[ho.2 j (by omega),ho.2 i hi]at e;have:=JB h (by omega) hi e;omega
theorem J4{d:List aV}{out:List dI}(ho:uM d out){s:Bytes}(hs:∀i,i<d.length->nameOf d i≠s):fF out s=[]:=
 Nz λi hi=>by rw[ho.1]at hi;rw[ho.2 i hi];exact hs i hi
structure gq(fs:List aF)(d:List aV)(r:List dI)(nm:Bytes->Bool)(out:List dI):Prop where
 order:uM d out
 kept:∀i,i<d.length->nm (nameOf d i)=false->iU out i=fF r (nameOf d i)
 fix:∀i,i<d.length->nm (nameOf d i)=true->iU out i=sel fs (dW d i) (aO out)
 aH:∃aH,kX d aH/\Eval (TR fs d) (due d nm) (OI d aH) (aO out)
theorem acu{a b:List (Int×Unit)}(h:a=b)(x:Int):fE a x=fE b x:=by rw[h]
theorem aol{d:List aV}{a b:List dI}(ha:uM d a)(hb:uM d b)(h:∀i,i<d.length->iU a i=iU b i):a=b:=by
 refine ay3 (ha.1.trans hb.1.symm) λi h1 h2=>?_;have hi:i<d.length:=by rw[← ha.1];exact h1
 have e1:=ha.2 i hi;have e2:=hb.2 i hi;have e3:=h i hi;unfold iU at e3;unfold tJ at e1 e2 e3;rw[awR,awV h1]at e1 e3;rw[awR,awV h2]at e2 e3;simp only[azt]at e1 e2 e3;exact ayK (e1.trans e2.symm) (ayK e3 rfl)
theorem Ll{fs:List aF}{d:List aV}{r:List dI}{nm:Bytes->Bool}{a b:List dI}(h:gm d=true)(ha:gq fs d r nm a)(hb:gq fs d r nm b):a=b:=by
 obtain⟨l1,hl1,e1⟩:=ha.aH;obtain⟨l2,hl2,e2⟩:=hb.aH;have off:∀s,¬due d nm s->∀x,aO a s x=aO b s x:=λs hs x=>by
  by_cases hd:∃i,i<d.length/\nameOf d i=s
  .obtain⟨i,hi,rfl⟩:=hd;have hn:nm (nameOf d i)=false:=by rw[ax6];exactλhn=>hs ⟨hn,i,hi,rfl⟩
   exact acu (by rw[sV h ha.order hi,sV h hb.order hi,ha.kept i hi hn,hb.kept i hi hn]) x
  .have hd':∀i,i<d.length->nameOf d i≠s:=λi hi e=>hd ⟨i,hi,e⟩;exact acu (by rw[J4 ha.order hd',J4 hb.order hd']) x
 have key:=UO (U:=due d nm) e1 e2 (JC h hl1 nm) (JC h hl2 nm) (λ_ h=>h) (λ_ h=>h) (λ_ _ _ _=>Iff.rfl) (λ_ _ _ h=>h) (λ_ _ _ h=>h)
  λi _ j _=>Classical.or_iff_not_imp_left.2 (off j)
 have all:aO a=aO b:=by
  funext s x
  by_cases hs:due d nm s
  .exact key s hs x
  .exact off s hs x
 refine aol ha.order hb.order λi hi=>?_;cases hn:nm (nameOf d i)with
 |false=>rw[ha.kept i hi hn,hb.kept i hi hn]
 |true=>rw[ha.fix i hi hn,hb.fix i hi hn,all]
def acv{ι α:Type}(S:Sys ι α)(N:ι->Prop)(aH:ι->Nat)(k:Nat)(X:Ext ι α):Prop:=
 ∀Y:Ext ι α,(∀i,¬(N i/\aH i=k)->∀x,Y i x=X i x)->(∀i,N i->aH i=k->∀x,S.T i Y x->Y i x=true)->∀i,N i->aH i=k->∀x,X i x=true->Y i x=true
open Classical in
theorem ajJ{ι α:Type}{S:Sys ι α}{N:ι->Prop}{aH:ι->Nat}(hs:aln S N aH){m:Nat}{X X':Ext ι α}(h:∀i,¬(N i/\m<aH i)->∀x,X i x=X' i x)(hX:acv S N aH m X):acv S N aH m X':=by
 intro Y hY hp i hi hl x hx;have key:=hX (λi x=>if N i/\m<aH i then X i x else Y i x) (λj hj y=>?_) (λj hj hlj y hy=>?_) i hi hl x (by rw[h i (by omega)];exact hx)
 .rw[if_neg (by omega)]at key;exact key
 .by_cases hc:N j/\m<aH j
  .rw[if_pos hc]
  .rw[if_neg hc,hY j hj,h j hc]
 .rw[if_neg (by omega)];have same:∀t,(S.pos j t\/S.neg j t)->¬(N t/\m<aH t):=λt ht hc=>by
   rcases ht with ht|ht
   .have:=(hs j t hj hc.1).1 ht;omega
   .have:=(hs j t hj hc.1).2 ht;omega
  refine hp j hj hlj y (S.mono j _ Y (λt ht z hz=>?_) (λt ht z=>?_) y hy)
  .rw[if_neg (same t (.inl ht))]at hz;exact hz
  .rw[if_neg (same t (.inr ht))]
def canon(fs:List aF)(l:List (Int×Unit)):Prop:=l=(fs.filter λf=>fE l f.1).map λf=>(f.1,())
def distinct(fs:List aF):Prop:=∀f∈fs,∀g∈fs,f.1=g.1->f=g
theorem aqW{fs:List aF}(hd:distinct fs)(q:List bI)(X:BX):canon fs (sel fs q X):=by
 show _=List.map _ (List.filter _ _)
 conv=>lhs;unfold sel
 congr 1;apply azM;intro f hf;rw[axf,Gs,acs];exact⟨λh=>⟨f,hf,rfl,h⟩,λ⟨g,hg,e,hm⟩=>by rw[hd f hf g hg e.symm];exact hm⟩
theorem aky{fs:List aF}{l:List (Int×Unit)}(h:canon fs l):l.length<=fs.length:=by rw[h,aw4];exact axh _ _
theorem filter_lt{α:Type}{p q:α->Bool}(h:∀x,p x=true->q x=true):∀{l:List α},(∃x∈l,q x=true/\p x=false)->(l.filter p).length<(l.filter q).length
 |[],h'=>by obtain⟨x,hx,_⟩:=h';cases hx
 |y::r,h'=>by
  have le:(r.filter p).length<=(r.filter q).length:=by
   clear h'
   induction r with
   |nil=>exact aw7 _
   |cons z t ih=>
    cases hp:p z with
    |true=>rw[axO hp,axO (h z hp)];simpa using ih
    |false=>
     rw[axW (by simp[hp])];cases hq:q z with
     |true=>rw[axO hq];exact Nat.le_succ_of_le ih
     |false=>rw[axW (by simp[hq])];exact ih
  obtain⟨x,hx,hq,hp⟩:=h';rcases axi.1 hx with rfl|hx
  .rw[axO hq,axW (by simp[hp])];exact Nat.lt_succ_of_le le
  .have ih:=filter_lt h ⟨x,hx,hq,hp⟩;cases hp':p y with
   |true=>rw[axO hp',axO (h y hp')];simpa using ih
   |false=>
    rw[axW (by simp[hp'])];cases hq':q y with
    |true=>rw[axO hq'];exact ayG ih
    |false=>rw[axW (by simp[hq'])];exact ih
theorem apz{fs:List aF}{a b:List (Int×Unit)}(ha:canon fs a)(hb:canon fs b)(h:∀x,fE a x=true->fE b x=true)(hne:b≠a):a.length<b.length:=by
 rw[ha,hb,aw4,aw4];refine filter_lt (p:=λf:aF=>fE a f.1) (q:=λf:aF=>fE b f.1) (λf=>h f.1) (axr λhno=>hne ?_);rw[ha,hb];congr 1;apply azM;intro f hf;cases hb':fE b f.1 with
 |false=>
  cases ha':fE a f.1 with
  |false=>rfl
  |true=>rw[h _ ha']at hb';cases hb'
 |true=>
  cases ha':fE a f.1 with
  |true=>rfl
  |false=>exact(hno ⟨f,hf,hb',ha'⟩).elim
structure oq(fs:List aF)(d:List aV)(r:List dI)(nm:Bytes->Bool)(aH:List (Int×Unit))(k:Nat)(out:List dI):Prop where
 order:uM d out
 kept:∀i,i<d.length->nm (nameOf d i)=false->iU out i=fF r (nameOf d i)
 later:∀i,i<d.length->nm (nameOf d i)=true->(k:Int)<lv aH i->iU out i=[]
 done:∀i,i<d.length->nm (nameOf d i)=true->lv aH i<k->iU out i=sel fs (dW d i) (aO out)
 abX:∀m,m<k->acv (TR fs d) (due d nm) (OI d aH) m (aO out)
 amT:∀i,i<d.length->nm (nameOf d i)=true->lv aH i=k->∀x,fE (iU out i) x=true->(x,())∈sel fs (dW d i) (aO out)
 least:acv (TR fs d) (due d nm) (OI d aH) k (aO out)
 canon:∀i,i<d.length->nm (nameOf d i)=true->canon fs (iU out i)
theorem arR{fs:List aF}{d:List aV}{r:List dI}{nm:Bytes->Bool}{aH:List (Int×Unit)}(h:gm d=true)(hl:kX d aH){out:List dI}(ho:uM d out)
 (h1:∀i,i<d.length->nm (nameOf d i)=false->iU out i=fF r (nameOf d i)) (h2:∀i,i<d.length->nm (nameOf d i)=true->iU out i=[]):oq fs d r nm aH 0 out where
 order:=ho
 kept:=h1
 later:=λi hi hn _=>h2 i hi hn
 done:=λi hi _ hlt=>by have:=(hl.2.1 i hi).1;omega
 abX:=λm hm=>by omega
 amT:=λi hi hn _ x hx=>by rw[h2 i hi hn]at hx;cases hx
 least:=λY _ _ s hs _ x hx=>by obtain⟨hn,i,hi,rfl⟩:=hs;have hx:fE (fF out (nameOf d i)) x=true:=hx;rw[sV h ho hi,h2 i hi hn]at hx;cases hx
 canon:=λi hi hn=>by rw[h2 i hi hn];show[]=List.map _ (List.filter _ _);rw[List.filter_eq_nil_iff.2 (λf _=>by simp[fE])];rfl
theorem TS{out:List dI}{i j:Nat}{x:dI}(hi:i<out.length):tJ (out.set i x) j=if j=i then x else tJ out j:=by
 unfold tJ;rw[awR,ayX];by_cases h:j=i
 .subst h;rw[if_pos rfl,if_pos hi,if_pos rfl];rfl
 .rw[if_neg (λe=>h e.symm),if_neg h,← awR]
theorem akz{d:List aV}{out:List dI}(ho:uM d out){i:Nat}(hi:i<d.length)(l:List (Int×Unit)):uM d (out.set i (nameOf d i,l,())):=by
 refine⟨by rw[axe];exact ho.1,λj hj=>?_⟩;rw[TS (by rw[ho.1];exact hi)];split
 .next e=>rw[e]
 .exact ho.2 j hj
theorem aqX{d:List aV}(h:gm d=true){out:List dI}(ho:uM d out){i:Nat}(hi:i<d.length)(l:List (Int×Unit)):
 (∀x,aO (out.set i (nameOf d i,l,())) (nameOf d i) x=fE l x)/\∀s,s≠nameOf d i->∀x,aO (out.set i (nameOf d i,l,())) s x=aO out s x:=by
 have ho':=akz ho hi l;refine⟨λx=>?_,λs hs x=>?_⟩
 .refine acu ?_ x;rw[sV h ho' hi];unfold iU;rw[TS (by rw[ho.1];exact hi),if_pos rfl]
 .refine acu ?_ x;by_cases hd:∃j,j<d.length/\nameOf d j=s
  .obtain⟨j,hj,rfl⟩:=hd;rw[sV h ho' hj,sV h ho hj];unfold iU;rw[TS (by rw[ho.1];exact hi),if_neg (λe=>hs (by rw[e]))]
  .have hd':∀i,i<d.length->nameOf d i≠s:=λi hi e=>hd ⟨i,hi,e⟩;rw[J4 ho' hd',J4 ho hd']
theorem acw{fs:List aF}{d:List aV}(h:gm d=true){i:Nat}(hi:i<d.length){X:BX}{x:Int}:(TR fs d).T (nameOf d i) X x↔(x,())∈sel fs (dW d i) X:=by
 constructor
 .rintro⟨j,hj,e,hx⟩;have:=JB h hj hi e;subst this;exact hx
 .exactλhx=>⟨i,hi,rfl,hx⟩
theorem at_set{fs:List aF}{d:List aV}{r:List dI}{nm:Bytes->Bool}{aH:List (Int×Unit)}{k:Nat}{out:List dI}(h:gm d=true)(hl:kX d aH)(hf:distinct fs)(A:oq fs d r nm aH k out){i:Nat}(hi:i<d.length)(hn:nm (nameOf d i)=true)(hk:lv aH i=k):
 oq fs d r nm aH k (out.set i (nameOf d i,sel fs (dW d i) (aO out),()))/\(sel fs (dW d i) (aO out)≠iU out i->(iU out i).length<(sel fs (dW d i) (aO out)).length)/\(sel fs (dW d i) (aO out)).length<=fs.length:=by
 have hc:=aqW hf (dW d i) (aO out);have hol:i<out.length:=by rw[A.order.1];exact hi
 have hs:=JC (fs:=fs) h hl nm;have hd:due d nm (nameOf d i):=⟨hn,i,hi,rfl⟩;have hlv:OI d aH (nameOf d i)=k:=by rw[Bd h hi,hk];rfl
 obtain⟨g1,g2⟩:=aqX h A.order hi (sel fs (dW d i) (aO out));have up:∀s x,aO out s x=true->aO (out.set i (nameOf d i,sel fs (dW d i) (aO out),())) s x=true:=λs x hx=>by
  by_cases e:s=nameOf d i
  .subst e;rw[g1,Gs];refine A.amT i hi hn hk x ?_;have hx:fE (fF out (nameOf d i)) x=true:=hx;rw[sV h A.order hi]at hx;exact hx
  .rw[g2 s e];exact hx
 have off:∀s,¬(due d nm s/\OI d aH s=k)->∀x,aO out s x=aO (out.set i (nameOf d i,sel fs (dW d i) (aO out),())) s x:=λs hs' x=>(g2 s (λe=>hs' (by rw[e];exact⟨hd,hlv⟩)) x).symm;have ids:∀j,iU (out.set i (nameOf d i,sel fs (dW d i) (aO out),())) j=if j=i then sel fs (dW d i) (aO out)else iU out j:=λj=>by unfold iU;rw[TS hol];split<;>rfl
 refine⟨⟨akz A.order hi _,λj hj Wl=>?_,λj hj Wl hlj=>?_,λj hj Wl hlj=>?_,λm hm=>?_,λj hj Wl hlj x hx=>?_,?_,λj hj Wl=>?_⟩,λhne=>?_,aky hc⟩
 .rw[ids,if_neg (λe=>by rw[e,hn]at Wl;cases Wl)];exact A.kept j hj Wl
 .rw[ids,if_neg (λe=>by rw[e,hk]at hlj;omega)];exact A.later j hj Wl hlj
 .rw[ids,if_neg (λe=>by rw[e,hk]at hlj;omega),A.done j hj Wl hlj];refine abT λb s hsd x=>off s (λhc=>?_) x;have hdj:due d nm (nameOf d j):=⟨Wl,j,hj,rfl⟩;have:=hs (nameOf d j) s hdj hc.1;have avJ:OI d aH (nameOf d j)<k:=by rw[Bd h hj];have:=(hl.2.1 j hj).1;omega
  cases b with
  |false=>have:=this.1 ⟨j,hj,rfl,hsd⟩;omega
  |true=>have:=this.2 ⟨j,hj,rfl,hsd⟩;omega
 .exact ajJ hs (λs hs'=>off s λhc=>hs' ⟨hc.1,by omega⟩) (A.abX m hm)
 .have hT:(TR fs d).T (nameOf d j) (aO out) x:=by
   rw[acw h hj];rw[ids]at hx;by_cases e:j=i
   .rw[if_pos e,Gs]at hx;rw[e];exact hx
   .rw[if_neg e]at hx;exact A.amT j hj Wl hlj x hx
  rw[← acw h hj];refine(TR fs d).mono _ _ _ (λs _=>up s) (λs hsd=>off s λhc=>?_) x hT;have:=(hs (nameOf d j) s ⟨Wl,j,hj,rfl⟩ hc.1).2 hsd;have avJ:OI d aH (nameOf d j)=k:=by rw[Bd h hj,hlj];rfl
  omega
 .intro Y hY hp s hsd hls x hx;have hY':∀t,¬(due d nm t/\OI d aH t=k)->∀x,Y t x=aO out t x:=λt ht x=>(hY t ht x).trans (off t ht x).symm;have base:=A.least Y hY' hp;by_cases e:s=nameOf d i
  .subst e;rw[g1,Gs,← acw h hi]at hx;refine hp _ hsd hls x ((TR fs d).mono _ _ _ (λt _ y hy=>?_) (λt ht y=>?_) x hx)
   .by_cases ht:due d nm t/\OI d aH t=k
    .exact base t ht.1 ht.2 y hy
    .rw[hY' t ht];exact hy
   .refine(hY' t (λhc=>?_) y).symm;have:=(hs (nameOf d i) t hd hc.1).2 ht;omega
  .rw[g2 s e]at hx;exact base s hsd hls x hx
 .rw[ids];split
  .exact hc
  .exact A.canon j hj Wl
 .refine apz (A.canon i hi hn) hc (λx hx=>?_) hne;rw[Gs];exact A.amT i hi hn hk x hx
theorem at_next{fs:List aF}{d:List aV}{r:List dI}{nm:Bytes->Bool}{aH:List (Int×Unit)}{k:Nat}{out:List dI}(h:gm d=true)(A:oq fs d r nm aH k out)(hstill:∀i,i<d.length->nm (nameOf d i)=true->lv aH i=k->sel fs (dW d i) (aO out)=iU out i):oq fs d r nm aH (k+1) out where
 order:=A.order
 kept:=A.kept
 later:=λi hi hn hlt=>A.later i hi hn (by omega)
 done:=λi hi hn hlt=>by
  by_cases e:lv aH i=k
  .exact(hstill i hi hn e).symm
  .exact A.done i hi hn (by omega)
 abX:=λm hm=>by
  by_cases e:m=k
  .subst e;exact A.least
  .exact A.abX m (by omega)
 amT:=λi hi hn hl x hx=>by rw[A.later i hi hn (by omega)]at hx;cases hx
 least:=λY _ _ s hs hls x hx=>by obtain⟨hn,i,hi,rfl⟩:=hs;rw[Bd h hi]at hls;have hx:fE (fF out (nameOf d i)) x=true:=hx;rw[sV h A.order hi,A.later i hi hn (by omega)]at hx;cases hx
 canon:=A.canon
theorem at_end{fs:List aF}{d:List aV}{r:List dI}{nm:Bytes->Bool}{aH:List (Int×Unit)}{k:Nat}{out:List dI}(h:gm d=true)(hl:kX d aH)(A:oq fs d r nm aH k out)(hk:∀i,i<d.length->lv aH i<k):gq fs d r nm out where
 order:=A.order
 kept:=A.kept
 fix:=λi hi hn=>A.done i hi hn (hk i hi)
 aH:=⟨aH,hl,{
  fix:=λs hs x=>by obtain⟨hn,i,hi,rfl⟩:=hs;rw[acw h hi,← A.done i hi hn (hk i hi),← Gs,← sV h A.order hi];rfl
  least:=λm Y hY hp s hs hls=>by
   have hm:m<k:=by obtain⟨hn,i,hi,rfl⟩:=hs;rw[Bd h hi]at hls;have:=hk i hi;have:=(hl.2.1 i hi).1;omega
   exact A.abX m hm Y hY hp s hs hls}⟩
def room(n:Nat)(out:List dI):Nat:=(out.map λx=>n-x.2.1.length).sum
theorem afJ{n:Nat}:∀{out:List dI}{i:Nat}{x:dI},i<out.length->(iU out i).length<x.2.1.length->x.2.1.length<=n->room n (out.set i x)<room n out
 |[],i,x,h,_,_=>by simp at h
 |y::r,0,x,_,h1,h2=>by
  have h1:y.2.1.length<x.2.1.length:=h1;show((x::r).map λx=>n-x.2.1.length).sum<((y::r).map λx=>n-x.2.1.length).sum;rw[axm,ayP,axm,ayP];omega
 |y::r,i+1,x,h,h1,h2=>by have ih:=afJ (out:=r) (i:=i) (x:=x) (by simpa using h) h1 h2;show((y::r.set i x).map λx=>n-x.2.1.length).sum<((y::r).map λx=>n-x.2.1.length).sum;rw[axm,ayP,axm,ayP];unfold room at ih;omega
end Sp
namespace Sp
open Go
abbrev Hq:=Bytes×List (Int×Unit)×List (Int×Unit)×Unit
abbrev dR:=List fD×List aF×Int×List aV×List dI×Unit
instance:DecidableEq (List (Int×Unit)):=inferInstance
instance:DecidableEq dI:=inferInstance
instance:DecidableEq (List dI):=inferInstance
instance:DecidableEq (List dI×Unit):=inferInstance
instance:DecidableEq (List aV×List dI×Unit):=inferInstance
instance:DecidableEq (Int×List aV×List dI×Unit):=inferInstance
instance:DecidableEq (List aF×Int×List aV×List dI×Unit):=inferInstance
instance awG:DecidableEq dR:=(inferInstance:DecidableEq (List fD×List aF×Int×List aV×List dI×Unit))
def dQ(l:LS)(s:Bytes):Bool:=l.any λx=>x.1==s
theorem iw{l:LS}{s:Bytes}:dQ l s=true↔(s,())∈l:=by unfold dQ;rw[axQ];exact⟨λ⟨y,hy,h⟩=>by rw[← awZ.1 h];exact hy,λh=>⟨_,h,awZ.2 rfl⟩⟩
def aU(r:List dI):Prop:=r.length<=1000/\∀x∈r,x.2.1.length<=1000
def aW(c:dR):bP:=(c.1,c.2.1,c.2.2.1,())
def cZ(c:dR):List aV:=c.2.2.2.1
def wW(c:dR):List dI:=c.2.2.2.2.1
def iq(c:dR):Prop:=bn (aW c)/\aI (cZ c)/\aU (wW c)
def OY(f:aF):Prop:=f.2.2.2.2.1.length<=500
def SA(c:dR):Prop:=∀f∈c.2.1,OY f
def iW(d:List aV):LS:=d.map λx=>(x.1,())
def ZL(d:List aV)(m:Int):Prop:=m<=1000/\∀aH,aB d=true->kX d aH->∀i,i<d.length->lv aH i<=m
open Classical in
noncomputable def dX (c:dR):Bool:=aB (cZ c)&&aC (aW c)&&decide (gq c.2.1 (cZ c) [] (λ_=>true) (wW c))
def dP(a:List aS):LS:=a.map λx=>(x.1,())
def gX(f g:aF):List Bytes:=((f.2.2.2.2.1++g.2.2.2.2.1).map λa=>a.1).filter λs=>!decide (bf f.2.2.2.2.1 s=bf g.2.2.2.2.1 s)
def lD(q:List bI):List Bytes:=(q.filter λn=>n.1==2||(n.1==3||n.1==4)).map λn=>n.2.2.2.1
def pG(q:List bI):List Bytes:=(q.filter jP).map λn=>n.2.2.2.1
def linked(q:List bI):Bool:=q.any λn=>n.1==9
def asking(d:List aV)(name:Bytes):LS:=(d.filter λx=>(pG x.2.1).contains name).map λx=>(x.1,())
inductive Reach(d:List aV)(P:Bytes->Prop):Bytes->Prop where
 |base {s}:P s->Reach d P s
 |step {s i}:Reach d P s->i<d.length->s∈pG (dW d i)->Reach d P (nameOf d i)
def isSet(r:LS)(P:Bytes->Prop):Prop:=r.length<=1000/\∀s,dQ r s=true↔P s
def reached(d:List aV)(names r:LS):Prop:=isSet r (Reach d λs=>dQ names s=true)
def Nb(d:List aV)(f g:aF)(s:Bytes):Prop:=
 ∃i,i<d.length/\nameOf d i=s/\(f.1≠g.1\/(∃t,t∈lD (dW d i)/\t∈gX f g)\/(linked (dW d i)=true/\f.2.2.2.1≠g.2.2.2.1))
def touched(d:List aV)(f g:aF)(r:LS):Prop:=r.length<=d.length/\∀s,dQ r s=true↔Nb d f g s
def Yv(d:List aV)(f g:aF):Bytes->Prop:=Reach d (Nb d f g)
open Classical in
noncomputable def ajd (d:List aV) (f g:aF) (s:Bytes):Bool:=decide (Yv d f g s)
def without(a b:List (Int×Unit)):List (Int×Unit):=a.filter λx=>!fE b x.1
def uH(a:List dI)(x:dI):Hq:=(x.1,without x.2.1 (fF a x.1),without (fF a x.1) x.2.1,())
def AP(y:Hq):Bool:=decide (0<y.2.1.length+y.2.2.1.length)
def Jc(a b:List dI):List Hq:=(b.map (uH a)).filter AP
def turned(c:dR)(s:bP)(d:List aV)(nm:Bytes->Bool)(c':dR)(df:List Hq)(ok:Bool):Prop:=
 ok=(aB d&&aC s)/\(ok=true->aW c'=s/\cZ c'=d/\gq s.2.1 d (wW c) nm (wW c')/\df=Jc (wW c) (wW c'))/\(ok=false->c'=c/\df=[])
def updated(c:dR)(f:aF)(c':dR)(df:List Hq)(ok:Bool):Prop:=
 ok=(dX c&&(aQ (aW c) f).2)/\
 (ok=true->aW c'=(aQ (aW c) f).1/\cZ c'=cZ c/\gq (aQ (aW c) f).1.2.1 (cZ c) (wW c) (ajd (cZ c) (aj (aW c) f.1).1 f) (wW c')/\df=Jc (wW c) (wW c'))/\
 (ok=false->c'=c/\df=[])
def OZ(c:dR):Prop:=iq c/\c.1=usual/\0<c.2.1.length/\dX c=true
def MX(fs:List aF)(d:List aV)(r:List dI)(nm:Bytes->Bool)(aH:List (Int×Unit))(k:Nat)(abY:List dI)(i:Nat)(c:Bool)(out:List dI):Prop:=
 oq fs d r nm aH k out/\(c=true->room fs.length out<room fs.length abY)/\
  (c=false->out=abY/\∀j,j<i->j<d.length->nm (nameOf d j)=true->lv aH j=k->sel fs (dW d j) (aO out)=iU out j)
theorem DV{fs:List aF}{d:List aV}{r:List dI}{nm:Bytes->Bool}{aH:List (Int×Unit)}{k i:Nat}{abY out:List dI}{c:Bool}(h:MX fs d r nm aH k abY i c out)(hs:nm (nameOf d i)=true->lv aH i=k->sel fs (dW d i) (aO out)=iU out i):MX fs d r nm aH k abY (i+1) c out:=
 ⟨h.1,h.2.1,λhc=>⟨(h.2.2 hc).1,λj hj hd hn hl=>by
   rcases aw8 j i with h'|h'
   .exact(h.2.2 hc).2 j h' hd hn hl
   .have:j=i:=by omega
    subst this;exact hs hn hl⟩⟩
theorem ae9{fs:List aF}{d:List aV}{r:List dI}{nm:Bytes->Bool}{aH:List (Int×Unit)}{k i:Nat}{abY out:List dI}{c:Bool}(hd:gm d=true)(hl:kX d aH)(hf:distinct fs)(h:MX fs d r nm aH k abY i c out)(hi:i<d.length)(hn:nm (nameOf d i)=true)(hk:lv aH i=k)(hne:sel fs (dW d i) (aO out)≠iU out i):
 MX fs d r nm aH k abY (i+1) true (out.set i ((tJ out i).1,sel fs (dW d i) (aO out),())):=by
 obtain⟨A,h1,h2⟩:=h;rw[A.order.2 i hi];obtain⟨g1,g2,g3⟩:=at_set hd hl hf A hi hn hk;refine⟨g1,λ_=>?_,λh=>by cases h⟩;have hr:room fs.length (out.set i (nameOf d i,sel fs (dW d i) (aO out),()))<room fs.length out:=afJ (by rw[A.order.1];exact hi) (g2 hne) g3;cases c with
 |true=>have:=h1 rfl;omega
 |false=>rw[(h2 rfl).1]at hr ⊢;exact hr
theorem Uu{fs:List aF}{d:List aV}{r:List dI}{nm:Bytes->Bool}{aH:List (Int×Unit)}{k:Nat}{out:List dI}(A:oq fs d r nm aH k out)(hd:d.length<=1000)(hf:fs.length<=1000)(hr:aU r):aU out:=by
 refine⟨by rw[A.order.1];exact hd,λx hx=>?_⟩;obtain⟨i,hi,rfl⟩:=axu hx;have hi':i<d.length:=by rw[← A.order.1];exact hi
 have e:(out[i]).2.1=iU out i:=by unfold iU tJ;rw[awR,awV hi];rfl
 rw[e];cases hn:nm (nameOf d i)with
 |true=>exact aw2 (aky (A.canon i hi' hn)) hf
 |false=>
  rw[A.kept i hi' hn];have:∀l:List dI,(∀x∈l,x.2.1.length<=1000)->(fF l (nameOf d i)).length<=1000:=by
   intro l
   induction l with
   |nil=>exactλ_=>axp _
   |cons x t ih=>
    intro hl;rw[fF];cases x.1==nameOf d i with
    |true=>exact hl x aw5
    |false=>exact ih λy hy=>hl y (aw6 _ hy)
  exact this r hr.2
def qV(r:List dI)(nm:Bytes->Bool)(x:aV):dI:=(x.1,bif nm x.1 then[]else fF r x.1,())
theorem afK{d:List aV}{r:List dI}{nm:Bytes->Bool}{i:Nat}(hi:i<d.length):tJ (d.map (qV r nm)) i=qV r nm (dN d i):=by unfold tJ dN;rw[awR,awR,ax1,awV hi];rfl
theorem NC{fs:List aF}{d:List aV}{r:List dI}{nm:Bytes->Bool}{aH:List (Int×Unit)}(hd:gm d=true)(hl:kX d aH):oq fs d r nm aH 0 (d.map (qV r nm)):=by
 refine arR hd hl ⟨by simp,λi hi=>?_⟩ (λi hi hn=>?_) λi hi hn=>?_
 .rw[afK hi];rfl
 .unfold iU;rw[afK hi];show(bif nm (nameOf d i)then[]else fF r (nameOf d i))=_;rw[hn];rfl
 .unfold iU;rw[afK hi];show(bif nm (nameOf d i)then[]else fF r (nameOf d i))=_;rw[hn];rfl
theorem XJ{s:bP}(h:aC s=true):∀(j i:Nat),i<j->j<s.2.1.length->(fileAt s.2.1 i).1<(fileAt s.2.1 j).1:=by
 intro j
 induction j with
 |zero=>intro i hi;omega
 |succ j ih=>
  intro i hi hj;have h1:kZ s (j+1)=true:=by unfold aC at h;rw[awP,awP,awP]at h;have:=h.1.1.1;unfold jK at this;exact axk.1 this (j+1) (axN.2 hj)
  have h2:(fileAt s.2.1 j).1<(fileAt s.2.1 (j+1)).1:=by unfold kZ at h1;rw[awP]at h1;have:=h1.2;rw[aw0 (Nat.succ_pos j)]at this;simpa using this
  rcases aw8 i j with h3|h3
  .exact Int.lt_trans (ih i h3 (by omega)) h2
  .have:i=j:=by omega
   subst this;exact h2
theorem xI{s:bP}(h:aC s=true):distinct s.2.1:=by
 intro f hf g hg e;obtain⟨i,hi,rfl⟩:=axu hf;obtain⟨j,hj,rfl⟩:=axu hg;have at_:∀k(hk:k<s.2.1.length),fileAt s.2.1 k=s.2.1[k]:=λk hk=>by unfold fileAt;rw[awR,awV hk];rfl
 rcases ayW i j with h1|h1|h1
 .have:=XJ h j i h1 hj;rw[at_ i hi,at_ j hj]at this;omega
 .subst h1;rfl
 .have:=XJ h i j h1 hi;rw[at_ i hi,at_ j hj]at this;omega
theorem Uw{fs:List aF}{d:List aV}{r r':List dI}{nm nm':Bytes->Bool}{out:List dI}(h:gq fs d r nm out)(hn:∀i,i<d.length->nm (nameOf d i)=nm' (nameOf d i))(hr:∀i,i<d.length->nm (nameOf d i)=false->fF r (nameOf d i)=fF r' (nameOf d i)):gq fs d r' nm' out:=by
 have hd:∀s,due d nm s↔due d nm' s:=λs=>by
  constructor
  .rintro⟨a,i,hi,rfl⟩;exact⟨by rw[← hn i hi];exact a,i,hi,rfl⟩
  .rintro⟨a,i,hi,rfl⟩;exact⟨by rw[hn i hi];exact a,i,hi,rfl⟩
 obtain⟨aH,h1,h2⟩:=h.aH;exact⟨h.order,λi hi h'=>by rw[← hn i hi]at h';rw[h.kept i hi h',hr i hi h'],λi hi h'=>h.fix i hi (by rw[hn i hi];exact h'),aH,h1,
  λs hs=>h2.fix s ((hd s).2 hs),λk Y hY hp s hs=>h2.least k Y (λt ht=>hY t λh'=>ht ⟨(hd t).2 h'.1,h'.2⟩) (λt ht=>hp t ((hd t).1 ht)) s ((hd s).2 hs)⟩
theorem apA{fs:List aF}{d:List aV}{r:List dI}{nm:Bytes->Bool}{aH:List (Int×Unit)}{k:Nat}(hd:gm d=true)(hl:kX d aH)(hf:distinct fs):∀(n:Nat)(out:List dI),room fs.length out<=n->oq fs d r nm aH k out->∃out',oq fs d r nm aH (k+1) out':=by
 intro n
 induction n using Nat.strongRecOn with
 |_ n ih=>
  intro out hn A;by_cases hs:∀i,i<d.length->nm (nameOf d i)=true->lv aH i=k->sel fs (dW d i) (aO out)=iU out i
  .exact⟨out,at_next hd A hs⟩
  .obtain⟨i,hi⟩:=ay8.1 hs;have h1:i<d.length:=axr λh=>hi λh'=>(h h').elim;have h2:nm (nameOf d i)=true:=axr λh=>hi λ_ h'=>(h h').elim;have h3:lv aH i=k:=axr λh=>hi λ_ _ h'=>(h h').elim;have h4:sel fs (dW d i) (aO out)≠iU out i:=λh=>hi λ_ _ _=>h;obtain⟨g1,g2,g3⟩:=at_set hd hl hf A h1 h2 h3;have hr:room fs.length (out.set i (nameOf d i,sel fs (dW d i) (aO out),()))<room fs.length out:=afJ (by rw[A.order.1];exact h1) (g2 h4) g3;exact ih _ (by omega) _ (aw7 _) g1
theorem Xu{fs:List aF}{d:List aV}(r:List dI)(nm:Bytes->Bool){aH:List (Int×Unit)}(hd:gm d=true)(hl:kX d aH)(hf:distinct fs):∃out,gq fs d r nm out:=by
 have:∀k,∃out,oq fs d r nm aH k out:=λk=>by
  induction k with
  |zero=>exact⟨_,NC hd hl⟩
  |succ k ih=>obtain⟨out,A⟩:=ih;exact apA hd hl hf _ out (aw7 _) A
 obtain⟨out,A⟩:=this (d.length+1);exact⟨out,at_end hd hl A λi hi=>by have:=(hl.2.1 i hi).2;omega⟩
end Sp
namespace Sp
open Go
theorem Nq{d:List aV}{out:List dI}(ho:uM d out){s:Bytes}(hs:¬∃i,i<d.length/\nameOf d i=s)(x:Int):aO out s x=false:=by unfold aO;rw[J4 ho λi hi e=>hs ⟨i,hi,e⟩];rfl
theorem incr{fs fs':List aF}{d d':List aV}{old R E:List dI}{nm:Bytes->Bool}(hd:gm d=true)(hd':gm d'=true)
 (h1:gq fs d [] (λ_=>true) old) (h2:gq fs' d' old nm R) (h3:gq fs' d' [] (λ_=>true) E)
 (hcl:∀i,i<d'.length->nm (nameOf d' i)=false->(∃j,j<d.length/\nameOf d j=nameOf d' i/\dW d j=dW d' i)/\(∀X,sel fs (dW d' i) X=sel fs' (dW d' i) X)/\∀b,∀s∈fJ (dW d' i) b,nm s=false)
 (hsub:∀j,j<d.length->nm (nameOf d j)=false->∃i,i<d'.length/\nameOf d' i=nameOf d j):R=E:=by
 obtain⟨l1,hl1,e1⟩:=h1.aH;obtain⟨l2,hl2,e2⟩:=h2.aH;obtain⟨l3,hl3,e3⟩:=h3.aH;have out1:∀s,nm s=false->(¬∃i,i<d'.length/\nameOf d' i=s)->∀x,aO old s x=false:=λs hn hs x=>
  Nq h1.order (λ⟨j,hj,e⟩=>by obtain⟨i,hi,e'⟩:=hsub j hj (by rw[e];exact hn);exact hs ⟨i,hi,e'.trans e⟩) x
 have avK:=UO (U:=λs=>nm s=false/\∃i,i<d'.length/\nameOf d' i=s) e1 e3 (JC hd hl1 _) (JC hd' hl3 _)
  (λs⟨hn,i,hi,e⟩=>by subst e;obtain⟨j,hj,e,_⟩:=(hcl i hi hn).1;exact⟨rfl,j,hj,e⟩) (λs⟨_,hs⟩=>⟨rfl,hs⟩)
  (λs⟨hn,i,hi,e⟩ X x=>by subst e;obtain⟨⟨j,hj,e,eq⟩,hsel,_⟩:=hcl i hi hn;rw[acw hd' hi,← e,acw hd hj,eq,hsel X])
  (λs⟨hn,i,hi,e⟩ t⟨i2,hi2,e2,ht⟩=>by subst e;obtain⟨⟨j,hj,e,eq⟩,_⟩:=hcl i hi hn;have:=JB hd' hi2 hi e2;subst this;exact⟨j,hj,e,by unfold dW at eq;rw[eq];exact ht⟩)
  (λs⟨hn,i,hi,e⟩ t⟨i2,hi2,e2,ht⟩=>by subst e;obtain⟨⟨j,hj,e,eq⟩,_⟩:=hcl i hi hn;have:=JB hd' hi2 hi e2;subst this;exact⟨j,hj,e,by unfold dW at eq;rw[eq];exact ht⟩)
  (λs⟨hn,i,hi,e⟩ t ht=>by
    subst e;obtain⟨⟨j,hj,e,eq⟩,_,apB⟩:=hcl i hi hn;have hnt:nm t=false:=by
     rcases ht with⟨j2,hj2,e2,ht⟩|⟨j2,hj2,e2,ht⟩
     .have:=JB hd hj2 hj (e2.trans e.symm);subst this;exact apB false t (by rw[← eq];exact ht)
     .have:=JB hd hj2 hj (e2.trans e.symm);subst this;exact apB true t (by rw[← eq];exact ht)
    by_cases hin:∃i,i<d'.length/\nameOf d' i=t
    .exact .inl ⟨hnt,hin⟩
    .exact .inr λx=>by rw[out1 t hnt hin,Nq h3.order hin])
 have off:∀s,nm s=false->∀x,aO old s x=aO E s x:=λs hn x=>by
  by_cases hin:∃i,i<d'.length/\nameOf d' i=s
  .exact avK s ⟨hn,hin⟩ x
  .rw[out1 s hn hin,Nq h3.order hin]
 have avL:=UO (U:=due d' nm) e2 e3 (JC hd' hl2 _) (JC hd' hl3 _) (λ_ h=>h) (λs⟨_,h⟩=>⟨rfl,h⟩) (λ_ _ _ _=>Iff.rfl) (λ_ _ _ h=>h) (λ_ _ _ h=>h)
  λs _ t _=>by
   by_cases ht:due d' nm t
   .exact .inl ht
   .refine .inr λx=>?_;by_cases hin:∃i,i<d'.length/\nameOf d' i=t
    .obtain⟨i,hi,rfl⟩:=hin;have hn:nm (nameOf d' i)=false:=by rw[ax6];exactλhn=>ht ⟨hn,i,hi,rfl⟩
     rw[← off _ hn];unfold aO;rw[sV hd' h2.order hi,h2.kept i hi hn]
    .rw[Nq h2.order hin,Nq h3.order hin]
 have all:∀s x,aO R s x=aO E s x:=λs x=>by
  by_cases hs:due d' nm s
  .exact avL s hs x
  .by_cases hin:∃i,i<d'.length/\nameOf d' i=s
   .obtain⟨i,hi,rfl⟩:=hin;have hn:nm (nameOf d' i)=false:=by rw[ax6];exactλhn=>hs ⟨hn,i,hi,rfl⟩
    rw[← off _ hn];unfold aO;rw[sV hd' h2.order hi,h2.kept i hi hn]
   .rw[Nq h2.order hin,Nq h3.order hin]
 refine aol h2.order h3.order λi hi=>?_;cases hn:nm (nameOf d' i)with
 |true=>
  rw[h2.fix i hi hn,h3.fix i hi rfl];exact abT λ_ s _ x=>all s x
 |false=>obtain⟨⟨j,hj,e,eq⟩,hsel,apB⟩:=hcl i hi hn;rw[h2.kept i hi hn,← e,sV hd h1.order hj,h1.fix j hj rfl,h3.fix i hi rfl,eq,hsel];exact abT λb s hs x=>off s (apB b s hs) x
theorem DK:∀{l:List aS}{s:Bytes},(∀a∈l,a.1≠s)->bf l s=(0,0,[],())
 |[],_,_=>rfl
 |x::r,s,h=>by rw[bf,awS.2 (h x aw5)];exact DK λa ha=>h a (aw6 _ ha)
theorem aqY{f g:aF}{t:Bytes}(h:t ∉ gX f g):bf f.2.2.2.2.1 t=bf g.2.2.2.2.1 t:=by
 by_cases hm:t∈(f.2.2.2.2.1++g.2.2.2.2.1).map λa=>a.1
 .refine axr λhne=>h ?_;unfold gX;rw[axF];exact⟨hm,by rw[aw1 hne];rfl⟩
 .have:∀a∈f.2.2.2.2.1++g.2.2.2.2.1,a.1≠t:=λa ha e=>hm (axX.2 ⟨a,ha,e⟩);rw[DK λa ha=>this a (axb.2 (.inl ha)),DK λa ha=>this a (axb.2 (.inr ha))]
theorem afL{q:List bI}{a:Nat}(h:(nodeAt q a).1≠0):nodeAt q a∈q:=by
 unfold nodeAt at h ⊢;rw[awR]at h ⊢;by_cases ha:a<q.length
 .rw[awV ha];exact ayb ha
 .rw[axE (by omega)]at h;exact(h rfl).elim
theorem aqZ{q:List bI}{a:Nat}{f g:aF}{X:BX}(hid:f.1=g.1)(hat:∀t∈lD q,bf f.2.2.2.2.1 t=bf g.2.2.2.2.1 t)(hlk:linked q=true->f.2.2.2.1=g.2.2.2.1):iY (nodeAt q a) f X=iY (nodeAt q a) g X:=by
 have at_:(nodeAt q a).1=2\/(nodeAt q a).1=3\/(nodeAt q a).1=4->bf f.2.2.2.2.1 (nodeAt q a).2.2.2.1=bf g.2.2.2.2.1 (nodeAt q a).2.2.2.1:=λh=>by refine hat _ ?_;unfold lD;rw[axX];refine⟨nodeAt q a,axF.2 ⟨afL (by omega),?_⟩,rfl⟩;simp only[axP,awZ];exact h
 unfold iY;by_cases h2:(nodeAt q a).1=2
 .rw[at_ (.inl h2),awZ.2 h2];rfl
 rw[awS.2 h2];by_cases h3:(nodeAt q a).1=3
 .rw[at_ (.inr (.inl h3)),awZ.2 h3];rfl
 rw[awS.2 h3];by_cases h4:(nodeAt q a).1=4
 .rw[at_ (.inr (.inr h4)),awZ.2 h4];rfl
 rw[awS.2 h4];by_cases h8:(nodeAt q a).1=8
 .rw[awZ.2 h8,hid];show(bif false then _ else _)=_;rfl
 rw[awS.2 h8];by_cases h9:(nodeAt q a).1=9
 .have:linked q=true:=by unfold linked;exact axQ.2 ⟨_,afL (by omega),awZ.2 h9⟩
  rw[awZ.2 h9,hlk this];rfl
 rw[awS.2 h9];rfl
theorem arS{q:List bI}{f g:aF}{X:BX}(hid:f.1=g.1)(hat:∀t∈lD q,bf f.2.2.2.2.1 t=bf g.2.2.2.2.1 t)(hlk:linked q=true->f.2.2.2.1=g.2.2.2.1):∀a,val q f X a=val q g X a:=by
 intro a
 induction a using Nat.strongRecOn with
 |_ a ih=>
  rw[N8 q f X a,N8 q g X a];split
  .split
   .next h=>rw[ih _ h]
   .rfl
  .split
   .split
    .next h=>rw[ih _ h.1,ih _ h.2]
    .rfl
   .split
    .split
     .next h=>rw[ih _ h.1,ih _ h.2]
     .rfl
    .exact aqZ hid hat hlk
theorem aq0{q:List bI}{b:Bool}{s:Bytes}(h:s∈fJ q b):s∈pG q:=by
 unfold fJ at h;rw[ayS]at h;obtain⟨i,hi,e⟩:=h;cases hc:jP (nodeAt q i)&&((negated q).getD i (false,())).1==b with
 |false=>rw[hc]at e;cases e
 |true=>rw[hc]at e;rw[awP]at hc;have e:(nodeAt q i).2.2.2.1=s:=Option.some.inj e;unfold pG;rw[axX];refine⟨nodeAt q i,axF.2 ⟨afL λh0=>?_,hc.1⟩,e⟩;have:=hc.1;unfold jP at this;rw[h0]at this;cases this
theorem as5{fs:List aF}{q:List bI}{X:BX}{n:Nat}{g:aF}(hn:n<fs.length)(hid:(fileAt fs n).1=g.1)(hm:iH q (fileAt fs n) X=iH q g X):sel (fs.set n g) q X=sel fs q X:=by
 have form:∀l:List aF,sel l q X=(l.map λf=>(iH q f X,f.1)).filterMap λp=>bif p.1 then some (p.2,())else none:=λl=>by
  unfold sel
  induction l with
  |nil=>rfl
  |cons f r ih=>
   rw[axm,azB];cases h:iH q f X with
   |true=>rw[axO (p:=λf=>iH q f X) h,axm,ih];rfl
   |false=>rw[axW (p:=λf=>iH q f X) (by simp[h]),ih];rfl
 rw[form,form,List.map_set];congr 1;have hat:fileAt fs n=fs[n]:=by unfold fileAt;rw[awR,awV hn];rfl
 rw[hat]at hid hm;have:(iH q g X,g.1)=(fs.map λf=>(iH q f X,f.1))[n]'(by rw[aw4];exact hn):=by rw[List.getElem_map,hm,hid]
 rw[this,List.set_getElem_self]
theorem arK{fs:List aF}{d:List aV}{n:Nat}{g:aF}{old R E:List dI}(hd:gm d=true)(hn:n<fs.length)(hid:(fileAt fs n).1=g.1)
 (h1:gq fs d [] (λ_=>true) old) (h2:gq (fs.set n g) d old (ajd d (fileAt fs n) g) R) (h3:gq (fs.set n g) d [] (λ_=>true) E):R=E:=by
 have arT:∀s,ajd d (fileAt fs n) g s=true↔Yv d (fileAt fs n) g s:=λs=>@ayr _ (Classical.propDecidable _);refine incr hd hd h1 h2 h3 (λi hi hna=>⟨⟨i,hi,rfl,rfl⟩,λX=>?_,λb s hs=>?_⟩) λj hj _=>⟨j,hj,rfl⟩
 .have hna:¬Yv d (fileAt fs n) g (nameOf d i):=λh=>by rw[(arT _).2 h]at hna;cases hna
  have hnt:¬Nb d (fileAt fs n) g (nameOf d i):=λh=>hna (.base h);refine(as5 hn hid ?_).symm;unfold iH;rw[arS hid (λt ht=>?_) λhl=>?_]
  .exact aqY λhc=>hnt ⟨i,hi,rfl,.inr (.inl ⟨t,ht,hc⟩)⟩
  .exact axr λhne=>hnt ⟨i,hi,rfl,.inr (.inr ⟨hl,hne⟩)⟩
 .rw[ax6];intro hs';have:=(arT s).1 hs';have h':Yv d (fileAt fs n) g (nameOf d i):=.step this hi (aq0 hs);rw[(arT _).2 h']at hna;cases hna
end Sp
namespace Sp
open Go
def lW(as:List aS):Prop:=as.Pairwise λx y=>Op.bytesLess x.1 y.1=true
theorem amU{α:Type}{R:α->α->Prop}(ht:∀a b c,R a b->R b c->R a c)(d:α):∀(l:List α),(∀i,i+1<l.length->R (l.getD i d) (l.getD (i+1) d))->l.Pairwise R
 |[],_=>List.Pairwise.nil
 |[x],_=>ayM _ _
 |x::y::r,h=>by
  have ih:=amU ht d (y::r) λi hi=>h (i+1) (by simpa using hi);have h0:R x y:=h 0 (by simp);refine axJ.2 ⟨λz hz=>?_,ih⟩;rcases axi.1 hz with rfl|hz
  .exact h0
  .exact ht _ _ _ h0 ((axJ.1 ih).1 z hz)
theorem Bz{fs:List fD}{as:List aS}:iy fs as=true↔(∀a∈as,iO fs a.1 a.2.1 a.2.2.1 a.2.2.2.1=true)/\lW as:=by
 have at_:∀i(hi:i<as.length),cu as i=as[i]:=λi hi=>by unfold cu;rw[awR,awV hi];rfl
 unfold iy;rw[show(jK as.length (kM fs as)=true)↔∀i,i<as.length->kM fs as i=true from by unfold jK;rw[axk];exact⟨λh i hi=>h i (axN.2 hi),λh i hi=>h i (axN.1 hi)⟩];have one:∀i,kM fs as i=true↔iO fs (cu as i).1 (cu as i).2.1 (cu as i).2.2.1 (cu as i).2.2.2.1=true/\(0<i->Op.bytesLess (cu as (i-1)).1 (cu as i).1=true):=λi=>by
  unfold kM;rw[awP];refine azz λ_=>?_;by_cases h0:0<i
  .rw[aw0 h0];simp[h0]
  .rw[aw1 h0];simp[h0]
 constructor
 .intro h;refine⟨λa ha=>?_,?_⟩
  .obtain⟨i,hi,rfl⟩:=axu ha;have:=((one i).1 (h i hi)).1;rw[at_ i hi]at this;exact this
  .refine amU (R:=λx y:aS=>Op.bytesLess x.1 y.1=true) (λa b c h1 h2=>AQ _ _ _ h1 h2) ([],0,0,[],()) as λi hi=>?_;exact((one (i+1)).1 (h (i+1) hi)).2 (by omega)
 .rintro⟨h1,h2⟩ i hi;refine(one i).2 ⟨?_,λh0=>?_⟩
  .rw[at_ i hi];exact h1 _ (ayb hi)
  .rw[at_ i hi,at_ (i-1) (by omega)];exact azj.1 h2 (i-1) i (by omega) hi (by omega)
theorem J5{α:Type}{p:α->Bool}:∀{l:List α}{x:α},x∈l.takeWhile p->p x=true/\x∈l
 |[],_,h=>by cases h
 |y::r,x,h=>by
  rw[aym]at h;split at h
  .next hp=>
   rcases axi.1 h with rfl|h
   .exact⟨hp,aw5⟩
   .exact⟨(J5 h).1,aw6 _ (J5 h).2⟩
  .cases h
theorem anF{fs:List fD}{as:List aS}{name:Bytes}{k n:Int}{s:Bytes}(h:iy fs as=true)(hm:iO fs name k n s=true)(hk:k≠0):iy fs (dU as name k n s)=true:=by
 obtain⟨h1,h2⟩:=Bz.1 h;unfold dU;rw[aw1 hk];show iy fs (xH (as.filter (fV name)) (name,k,n,s,()))=true;have g1:∀a∈as.filter (fV name),iO fs a.1 a.2.1 a.2.2.1 a.2.2.2.1=true/\a.1≠name:=λa ha=>by obtain⟨x,y⟩:=axF.1 ha;refine⟨h1 a x,?_⟩;unfold fV at y;simpa using y
 have g2:lW (as.filter (fV name)):=ay9 _ h2;generalize as.filter (fV name)=l at g1 g2;unfold xH;have e:=aye (p:=gJ name) (l:=l);have g2':=g2;unfold lW at g2';rw[← e,ayc]at g2';have lo:∀a∈l.takeWhile (gJ name),Op.bytesLess a.1 name=true:=λa ha=>by
  obtain⟨x,y⟩:=J5 ha;unfold gJ at x;rw[axP]at x;rcases x with x|x
  .exact x
  .exact((g1 a y).2 (awZ.1 x)).elim
 have hi:∀a∈l.dropWhile (gJ name),Op.bytesLess name a.1=true:=by
  have hd:=g2'.2.1;cases hl:l.dropWhile (gJ name)with
  |nil=>exactλa ha=>by cases ha
  |cons y r=>
   have hy:gJ name y=false:=by have:=List.head_dropWhile_not (gJ name) (l:=l) (by rw[hl];simp);simp only[hl,List.head_cons]at this;exact this
   have hy:Op.bytesLess name y.1=true:=by have:=XQ y.1 name;unfold gJ at hy;rw[hy]at this;exact this.symm
   rw[hl]at hd;intro a ha;rcases axi.1 ha with rfl|ha
   .exact hy
   .exact AQ _ _ _ hy ((axJ.1 hd).1 a ha)
 refine Bz.2 ⟨λa ha=>?_,?_⟩
 .rcases axb.1 ha with ha|ha
  .exact(g1 a (J5 ha).2).1
  .rcases axi.1 ha with rfl|ha
   .exact hm
   .exact(g1 a (List.dropWhile_sublist _|>.subset ha)).1
 .unfold lW;rw[ayc];refine⟨g2'.1,axJ.2 ⟨hi,g2'.2.1⟩,λa ha b hb=>?_⟩;rcases axi.1 hb with rfl|hb
  .exact lo a ha
  .exact g2'.2.2 a ha b hb
theorem amV{α:Type}[BEq α][LawfulBEq α]:∀(a b:List α),a.Nodup->(∀x∈a,x∈b)->a.length<=b.length
 |[],_,_,_=>axp _
 |x::r,b,hn,h=>by
  rw[azY]at hn;have hx:=h x aw5;have ih:=amV r (b.erase x) hn.2 λy hy=>by
   have hne:y≠x:=λe=>by subst e;exact hn.1 hy
   rw[List.mem_erase_of_ne hne];exact h y (aw6 _ hy)
  rw[List.length_erase_of_mem hx]at ih;have:0<b.length:=List.length_pos_of_mem hx;rw[awU];omega
theorem aii:∀{fs:List fD}{s:Bytes},kindOf fs s≠0->s∈fs.map λf=>f.1
 |[],_,h=>(h rfl).elim
 |f::r,s,h=>by
  rw[kindOf]at h;by_cases e:f.1=s
  .rw[axm,e];exact aw5
  .rw[aw1 e]at h;rw[axm];exact aw6 _ (aii h)
theorem amC{fs:List fD}{as:List aS}(h:iy fs as=true):as.length<=fs.length:=by
 obtain⟨h1,h2⟩:=Bz.1 h;have:=amV (as.map λa=>a.1) (fs.map λf=>f.1) ?_ λs hs=>?_
 .rw[aw4,aw4]at this;exact this
 .unfold List.Nodup;rw[azq];exact h2.imp λ{a b} hab=>Dz hab
 .obtain⟨a,ha,rfl⟩:=axX.1 hs;have hm:=h1 a ha;unfold iO at hm;simp only[awP,axj,ayV,axT]at hm;exact aii (by rw[← hm.2];exact hm.1.2)
end Sp
namespace Sp
open Go
def belowD(name:Bytes)(x:aV):Bool:=Op.bytesLess x.1 name
def aq1(name:Bytes)(x:aV):Bool:=!(x.1==name)
def aq2(d:List aV)(x:aV):List aV:=d.takeWhile (belowD x.1)++x::(d.dropWhile (belowD x.1)).filter (aq1 x.1)
def amW(d:List aV)(x:aV):List aV×Bool:=bif gm d&&gm (aq2 d x)then(aq2 d x,true)else(d,false)
theorem apo{α:Type}(p:α->Bool):∀l:List α,l.dropWhile p=l.drop (l.takeWhile p).length
 |[]=>rfl
 |x::r=>by
  rw[azC,aym];cases p x with
  |true=>simp only[if_true,awU,List.drop_succ_cons];exact apo p r
  |false=>rfl
theorem apn{α:Type}(p:α->Bool):∀l:List α,l.takeWhile p=l.take (l.takeWhile p).length
 |[]=>rfl
 |x::r=>by
  rw[aym];cases p x with
  |true=>simp only[if_true,awU,azd];exact congrArg (x::·) (apn p r)
  |false=>rfl
theorem abD{α:Type}(p:α->Bool)(d:α):∀(l:List α)(k:Nat),k<=l.length->(∀i,i<k->p (l.getD i d)=true)->(k<l.length->p (l.getD k d)=false)->(l.takeWhile p).length=k
 |[],0,_,_,_=>rfl
 |[],_+1,h,_,_=>by simp at h
 |x::r,0,_,_,h=>by
  have:p x=false:=h (by simp);rw[aym,this];rfl
 |x::r,k+1,hk,h1,h2=>by have:p x=true:=h1 0 (by omega);rw[aym,this];simp only[if_true,awU];rw[abD p d r k (by simpa using hk) (λi hi=>h1 (i+1) (by omega)) λh=>h2 (by simpa using h)]
def became(c:dR)(s:bP)(d:List aV)(ok0:Bool)(c':dR)(df:List Hq)(ok:Bool):Prop:=
 ok=ok0/\(ok=true->aW c'=s/\cZ c'=d/\dX c'=true/\df=Jc (wW c) (wW c'))/\(ok=false->c'=c/\df=[])
def apl(c:dR):Prop:=∀f∈c.2.1,f.2.2.2.2.1.length<=400
theorem arO{c:dR}(h:apl c):SA c:=λf hf=>aw2 (h f hf) (by decide)
def kJ(c:dR):Prop:=iq c/\apl c/\(cZ c).length<=10
def named(f:aF)(w:Bytes):aF:=(f.1,f.2.1,f.2.2.1,f.2.2.2.1,dU f.2.2.2.2.1 [110] 2 0 w,())
def kK(c:dR)(u id:Int):Bool:=(aj (aW c) id).2&&nG (aj (aW c) id).1 u
def changed(c:dR)(g:aF)(b:Bool)(c':dR)(ok:Bool):Prop:=
 ok=(b&&(dX c&&(aQ (aW c) g).2))/\(ok=true->aW c'=(aQ (aW c) g).1/\cZ c'=cZ c/\dX c'=true)/\(ok=false->c'=c)
end Sp
namespace Sp
open Go
def as6(d:List aV)(name:Bytes):List aV:=d.filter (aq1 name)
def removeDir(d:List aV)(name:Bytes):List aV×Bool:=bif gm d&&decide (0<=aP d name)then(as6 d name,true)else(d,false)
def Oh(u:Int):Bool:=decide (0<=u)&&decide (u<=2)
def RD(x:zB):aF:=(x.2.1,x.2.2.1,x.2.2.2.1,x.2.2.2.2.1,x.2.2.2.2.2.1,())
def arU(x:zB):Int:=x.2.2.2.2.2.2.1
def aij(x:zB):aV:=(x.2.2.2.2.2.2.2.1,x.2.2.2.2.2.2.2.2.1,())
def aof(c:dR)(x:zB):bP:=
 bif x.1==1 then(dD (aW c) (RD x)).1 else bif x.1==2 then(aQ (aW c) (RD x)).1 else bif x.1==3 then(fM (aW c) (arU x)).1 else aW c
def aqK(c:dR)(x:zB):List aV:=bif x.1==4 then(amW (cZ c) (aij x)).1 else bif x.1==5 then(removeDir (cZ c) (aij x).1).1 else cZ c
noncomputable def asw (c:dR) (u:Int) (x:zB):Bool:=
 bif x.1==1 then decide ((RD x).2.1=u)&&(dD (aW c) (RD x)).2.2 else
 bif x.1==2 then(kK c u (RD x).1&&decide ((RD x).2.1=u))&&(aQ (aW c) (RD x)).2 else
 bif x.1==3 then kK c u (arU x)&&(fM (aW c) (arU x)).2 else
 bif x.1==4 then(amW (cZ c) (aij x)).2&&aB (amW (cZ c) (aij x)).1 else
 bif x.1==5 then(removeDir (cZ c) (aij x).1).2 else false
noncomputable def atJ (c:dR) (u:Int) (x:zB):Bool:=(Oh u&&dX c)&&asw c u x
def applied(c:dR)(u:Int)(x:zB)(c':dR)(df:List Hq)(ok:Bool):Prop:=became c (aof c x) (aqK c x) (atJ c u x) c' df ok
theorem Gn{c:dR}{u id:Int}(h:kK c u id=true):(aj (aW c) id).2=true/\(aj (aW c) id).1.2.1=u:=by unfold kK nG at h;simp only[awP,axj]at h;exact⟨h.1,h.2.2⟩
theorem as7{s:bP}{n:Nat}{id:Int}(hn:n<s.2.1.length)(h:place s.2.1 id=n):aj s id=(fileAt s.2.1 n,true):=by unfold aj;rw[h,aw1 (by omega),awX];rfl
end Sp
namespace Sp
open Go
abbrev wX:=Bool×List aS×Unit
def IU:wX:=(false,[],())
def uJ(l:List aS)(x:aS):Bool:=l.any λy=>y.1==x.1
def DC(l:List aS)(x:aS):Bool:=l.any λy=>y.1==x.1&&!decide (y.2=x.2)
def wz(name:Bytes)(y:aS):Bool:=Op.bytesLess y.1 name
def JA(l:List aS)(x:aS):List aS:=l.takeWhile (wz x.1)++x::l.dropWhile (wz x.1)
def jZ(a:List aS):List aS->List aS->Option (List aS)
 |acc,[]=>some acc
 |acc,x::r=>bif DC a x then none else bif uJ a x then jZ a acc r else jZ a (JA acc x) r
def acr:Option (List aS)->wX
 |some l=>(true,l,())
 |none=>IU
def pK(a b:wX):wX:=bif a.1&&b.1 then acr (jZ a.2.1 a.2.1 b.2.1)else IU
def Js(a b:wX):wX:=bif a.1==b.1 then IU else bif a.1 then a else b
def dH(q:List bI)(f:aF)(X:BX)(a:Nat)(m:Bool):wX:=
 if val q f X a=m then(true,[],())
 else if(nodeAt q a).1=5 then(if h:(nodeAt q a).2.1.toNat<a then dH q f X (nodeAt q a).2.1.toNat (!m)else IU)
 else if gZ (nodeAt q a)=true then(if h:(nodeAt q a).2.1.toNat<a/\(nodeAt q a).2.2.1.toNat<a then
  (bif ((nodeAt q a).1==6)==m then pK (dH q f X (nodeAt q a).2.1.toNat m) (dH q f X (nodeAt q a).2.2.1.toNat m)
   else Js (dH q f X (nodeAt q a).2.1.toNat m) (dH q f X (nodeAt q a).2.2.1.toNat m))else IU)
 else if(nodeAt q a).1=3/\m=true then(true,[((nodeAt q a).2.2.2.1,(nodeAt q a).2.2.2.2.1,(nodeAt q a).2.2.2.2.2.1,(nodeAt q a).2.2.2.2.2.2.1,())],())
 else if(nodeAt q a).1=2/\m=false then(true,[((nodeAt q a).2.2.2.1,0,0,[],())],())
 else IU
termination_by a
decreasing_by all_goals omega
theorem abZ(l:List aS)(x:aS):(JA l x).Perm (x::l):=by
 unfold JA;have h:=List.perm_middle (a:=x) (l₁:=l.takeWhile (wz x.1)) (l₂:=l.dropWhile (wz x.1))
 rwa [aye]at h
theorem afv(l:List aS)(x:aS):(JA l x).length=l.length+1:=by
 have:=(abZ l x).length_eq
 rwa [awU]at this
theorem Ym{a:List aS}:∀{b acc l:List aS},jZ a acc b=some l->l.length<=acc.length+b.length
 |[],acc,l,h=>by cases h;simp
 |x::r,acc,l,h=>by
  rw[jZ]at h;cases hc:DC a x with
  |true=>rw[hc]at h;cases h
  |false=>
   rw[hc]at h;cases hk:uJ a x with
   |true=>rw[hk]at h;have:=Ym (b:=r) h;rw[awU];omega
   |false=>rw[hk]at h;have:=Ym (b:=r) h;rw[afv]at this;rw[awU];omega
theorem apC(a b:wX):(pK a b).2.1.length<=a.2.1.length+b.2.1.length:=by
 unfold pK;cases a.1&&b.1 with
 |false=>exact axp _
 |true=>
  show(acr _).2.1.length<=_;cases h:jZ a.2.1 a.2.1 b.2.1 with
  |none=>exact axp _
  |some l=>exact Ym h
theorem aom(a b:wX):Js a b=IU\/Js a b=a\/Js a b=b:=by
 unfold Js;cases a.1==b.1 with
 |true=>exact .inl rfl
 |false=>cases a.1 with
  |true=>exact .inr (.inl rfl)
  |false=>exact .inr (.inr rfl)
theorem ahS(q:List bI)(f:aF)(X:BX):∀(a:Nat)(m:Bool),(dH q f X a m).2.1.length<=2 ^ a:=by
 intro a
 induction a using Nat.strongRecOn with
 |_ a ih=>
  intro m;have one:1<=2 ^ a:=Nat.one_le_two_pow;rw[dH];split
  .exact axp _
  split
  .split
   .next h=>exact aw2 (ih _ h _) (ayv (by decide) (azR h))
   .exact axp _
  split
  .split
   .next h=>
    have h1:=aw2 (ih _ h.1 m) (ayv (n:=2) (by decide) (show(nodeAt q a).2.1.toNat<=a-1 by omega));have h2:=aw2 (ih _ h.2 m) (ayv (n:=2) (by decide) (show(nodeAt q a).2.2.1.toNat<=a-1 by omega));have e:2 ^ a=2 ^ (a-1)+2 ^ (a-1):=by obtain⟨b,rfl⟩:∃b,a=b+1:=⟨a-1,by omega⟩;rw[azn,Nat.pow_succ];omega
    cases ((nodeAt q a).1==6)==m with
    |true=>exact aw2 (apC _ _) (by omega)
    |false=>
     show(Js _ _).2.1.length<=_;rcases aom (dH q f X (nodeAt q a).2.1.toNat m) (dH q f X (nodeAt q a).2.2.1.toNat m)with e|e|e
     .rw[e];exact axp _
     .rw[e];omega
     .rw[e];omega
   .exact axp _
  split
  .exact one
  split
  .exact one
  .exact axp _
theorem amX{l:List aS}{x:aS}(h:lW l)(hx:uJ l x=false):lW (JA l x):=by
 unfold JA;have g:=h;unfold lW at g;have e:=aye (p:=wz x.1) (l:=l);rw[← e,ayc]at g;have ne:∀y∈l,y.1≠x.1:=λy hy he=>by unfold uJ at hx;rw[ax6]at hx;exact hx (axQ.2 ⟨y,hy,awZ.2 he⟩)
 have lo:∀a∈l.takeWhile (wz x.1),Op.bytesLess a.1 x.1=true:=λa ha=>(J5 ha).1;have hi:∀a∈l.dropWhile (wz x.1),Op.bytesLess x.1 a.1=true:=by
  have hd:=g.2.1;cases hl:l.dropWhile (wz x.1)with
  |nil=>exactλa ha=>by cases ha
  |cons y r=>
   have hy:wz x.1 y=false:=by have:=List.head_dropWhile_not (wz x.1) (l:=l) (by rw[hl];simp);simp only[hl,List.head_cons]at this;exact this
   have hym:y∈l:=(List.dropWhile_sublist _).subset (by rw[hl];exact aw5);have hy:Op.bytesLess x.1 y.1=true:=by have:=XQ y.1 x.1;rw[show Op.bytesLess y.1 x.1=false from hy,awS.2 (ne y hym)]at this;exact this.symm
   rw[hl]at hd;intro a ha;rcases axi.1 ha with rfl|ha
   .exact hy
   .exact AQ _ _ _ hy ((axJ.1 hd).1 a ha)
 unfold lW;rw[ayc];refine⟨g.1,axJ.2 ⟨hi,g.2.1⟩,λa ha b hb=>?_⟩;rcases axi.1 hb with rfl|hb
 .exact lo a ha
 .exact g.2.2 a ha b hb
theorem Yn{a:List aS}:∀{b acc l:List aS},lW acc->lW b->(∀y∈acc,uJ a y=true\/∀z∈b,Op.bytesLess y.1 z.1=true)->jZ a acc b=some l->lW l
 |[],acc,l,h,_,_,e=>by cases e;exact h
 |x::r,acc,l,h,hb,hy,e=>by
  rw[jZ]at e;obtain⟨hb1,hb2⟩:=axJ.1 hb;cases hc:DC a x with
  |true=>rw[hc]at e;cases e
  |false=>
   rw[hc]at e;cases hk:uJ a x with
   |true=>rw[hk]at e;exact Yn h hb2 (λy my=>(hy y my).imp_right λg z hz=>g z (aw6 _ hz)) e
   |false=>
    rw[hk]at e;have no:uJ acc x=false:=by
     rw[ax6];intro hx;obtain⟨y,my,he⟩:=axQ.1 hx;rcases hy y my with g|g
     .unfold uJ at g hk;rw[awZ.1 he]at g;rw[g]at hk;cases hk
     .exact Dz (g x aw5) (awZ.1 he)
    refine Yn (amX h no) hb2 (λy my=>?_) e;rcases axi.1 ((abZ acc x).mem_iff.1 my)with rfl|my
    .exact .inr hb1
    .exact(hy y my).imp_right λg z hz=>g z (aw6 _ hz)
theorem apD{a b:wX}(ha:lW a.2.1)(hb:lW b.2.1):lW (pK a b).2.1:=by
 unfold pK;cases a.1&&b.1 with
 |false=>exact List.Pairwise.nil
 |true=>
  show lW (acr _).2.1;cases h:jZ a.2.1 a.2.1 b.2.1 with
  |none=>exact List.Pairwise.nil
  |some l=>exact Yn ha hb (λy hy=>.inl (axQ.2 ⟨y,hy,awZ.2 rfl⟩)) h
theorem apE(q:List bI)(f:aF)(X:BX):∀(a:Nat)(m:Bool),lW (dH q f X a m).2.1:=by
 intro a
 induction a using Nat.strongRecOn with
 |_ a ih=>
  intro m;rw[dH];split
  .exact List.Pairwise.nil
  split
  .split
   .next h=>exact ih _ h _
   .exact List.Pairwise.nil
  split
  .split
   .next h=>
    cases ((nodeAt q a).1==6)==m with
    |true=>exact apD (ih _ h.1 m) (ih _ h.2 m)
    |false=>
     show lW (Js _ _).2.1;rcases aom (dH q f X (nodeAt q a).2.1.toNat m) (dH q f X (nodeAt q a).2.2.1.toNat m)with e|e|e
     .rw[e];exact List.Pairwise.nil
     .rw[e];exact ih _ h.1 m
     .rw[e];exact ih _ h.2 m
   .exact List.Pairwise.nil
  split
  .exact ayM _ _
  split
  .exact ayM _ _
  .exact List.Pairwise.nil
end Sp
namespace Sp
open Go
def Yo(x:aS):aaV:=bif x.2.1==0 then(0,0,[],())else x.2
def oK(a l:List aS):List aS:=l.foldl (λa x=>dU a x.1 x.2.1 x.2.2.1 x.2.2.2.1) a
def P9(a:List aS):Prop:=lW a/\∀x∈a,x.2.1≠0
theorem ad7{x:aS}{t:Bytes}(h:x.1≠t):∀(p:List aS){q:List aS},bf (p++x::q) t=bf (p++q) t
 |[],q=>by show bf (x::q) t=bf q t;rw[bf,awS.2 h];rfl
 |y::p,q=>by show bf (y::(p++x::q)) t=bf (y::(p++q)) t;rw[bf,bf,ad7 h p]
theorem RG{x:aS}:∀(p:List aS){q:List aS},(∀y∈p,y.1≠x.1)->bf (p++x::q) x.1=x.2
 |[],q,_=>by show bf (x::q) x.1=x.2;rw[bf,ayA];rfl
 |y::p,q,h=>by show bf (y::(p++x::q)) x.1=_;rw[bf,awS.2 (h y aw5)];exact RG p λz hz=>h z (aw6 _ hz)
theorem UR(name t:Bytes):∀(a:List aS),bf (a.filter (fV name)) t=if t=name then(0,0,[],())else bf a t
 |[]=>by split<;>rfl
 |x::r=>by
  have ih:=UR name t r;by_cases hx:x.1=name
  .rw[axW (by unfold fV;simp[hx]),ih];split
   .rfl
   .next hne=>rw[bf,awS.2 (show x.1≠t fromλe=>hne (e.symm.trans hx))];rfl
  .rw[axO (by unfold fV;simp[hx]),bf,bf,ih];by_cases e:x.1=t
   .rw[awZ.2 e];exact(if_neg λe2=>hx (e.trans e2)).symm
   .rw[awS.2 e];rfl
theorem amY{l:List aS}{x:aS}(h:∀y∈l,y.1≠x.1):xH l x=JA l x:=by
 have e:∀(l:List aS),(∀y∈l,y.1≠x.1)->l.takeWhile (gJ x.1)=l.takeWhile (wz x.1)/\l.dropWhile (gJ x.1)=l.dropWhile (wz x.1):=by
  intro l
  induction l with
  |nil=>exactλ_=>⟨rfl,rfl⟩
  |cons y r ih=>
   intro h;obtain⟨i1,i2⟩:=ih λz hz=>h z (aw6 _ hz);have hy:gJ x.1 y=wz x.1 y:=by unfold gJ wz;rw[awS.2 (h y aw5),Bool.or_false]
   rw[aym,aym,azC,azC,hy,i1,i2];exact⟨rfl,rfl⟩
 unfold xH JA;rw[(e l h).1,(e l h).2]
theorem TT{a:List aS}{name:Bytes}:∀y∈a.filter (fV name),y.1≠name:=λy hy=>by have:=(axF.1 hy).2;unfold fV at this;simpa using this
theorem ad8(a:List aS)(x:aS)(t:Bytes):bf (dU a x.1 x.2.1 x.2.2.1 x.2.2.2.1) t=if t=x.1 then Yo x else bf a t:=by
 unfold dU Yo;by_cases hk:x.2.1=0
 .rw[aw0 hk,awZ.2 hk];exact UR x.1 t a
 .rw[aw1 hk,awS.2 hk];show bf (xH (a.filter (fV x.1)) x) t=_;rw[amY TT];unfold JA;split
  .next e=>rw[e];exact RG _ λy hy=>TT y (J5 hy).2
  .next e=>rw[ad7 λh=>e h.symm,aye,UR,if_neg e]
theorem amZ{a:List aS}(h:P9 a)(x:aS):P9 (dU a x.1 x.2.1 x.2.2.1 x.2.2.2.1):=by
 unfold dU;have g:lW (a.filter (fV x.1)):=ay9 _ h.1;by_cases hk:x.2.1=0
 .rw[aw0 hk];exact⟨g,λy hy=>h.2 y (axF.1 hy).1⟩
 .rw[aw1 hk];show P9 (xH (a.filter (fV x.1)) x);rw[amY TT];refine⟨amX g ?_,λy hy=>?_⟩
  .rw[ax6];intro hx;obtain⟨y,my,he⟩:=axQ.1 hx;exact TT y my (awZ.1 he)
  .rcases axi.1 ((abZ _ x).mem_iff.1 hy)with rfl|hy
   .exact hk
   .exact h.2 y (axF.1 hy).1
theorem UU:∀{l a:List aS},P9 a->P9 (oK a l)
 |[],_,h=>h
 |x::r,_,h=>UU (l:=r) (amZ h x)
theorem Gt{t:Bytes}:∀{l a:List aS},(∀x∈l,x.1≠t)->bf (oK a l) t=bf a t
 |[],_,_=>rfl
 |x::r,a,h=>by show bf (oK (dU a x.1 x.2.1 x.2.2.1 x.2.2.2.1) r) t=_;rw[Gt λy hy=>h y (aw6 _ hy),ad8,if_neg λe=>h x aw5 e.symm]
theorem Fg:∀{l a:List aS}{x:aS},lW l->x∈l->bf (oK a l) x.1=Yo x
 |y::r,a,x,h,hx=>by
  obtain⟨h1,h2⟩:=axJ.1 h;rcases axi.1 hx with rfl|hx
  .show bf (oK (dU a x.1 x.2.1 x.2.2.1 x.2.2.2.1) r) x.1=_;rw[Gt λz hz=>(Dz (h1 z hz)).symm,ad8,if_pos rfl]
  .exact Fg (l:=r) h2 hx
theorem ab1{a:List aS}(h:P9 a)(x:aS):x∈a↔x.2.1≠0/\bf a x.1=x.2:=by
 constructor
 .intro hx;refine⟨h.2 x hx,?_⟩;obtain⟨p,q,rfl⟩:=List.append_of_mem hx;have:=h.1;unfold lW at this;rw[ayc]at this;exact RG p λy hy=>Dz (this.2.2 y hy x aw5)
 .rintro⟨h0,he⟩;have:∀(l:List aS),bf l x.1=x.2->x∈l:=by
   intro l
   induction l with
   |nil=>
    intro e;have e:((0,0,[],()):aaV)=x.2:=e;exact(h0 (by rw[← e])).elim
   |cons y r ih=>
    intro e;rw[bf]at e;by_cases hy:y.1=x.1
    .rw[awZ.2 hy]at e;have e:y.2=x.2:=e;rw[show x=y from ayK hy.symm e.symm];exact aw5
    .rw[awS.2 hy]at e;exact aw6 _ (ih e)
  exact this a he
theorem arV{a b:List aS}(ha:lW a)(hb:lW b)(h:∀x,x∈a↔x∈b):a=b:=by
 have nd:∀{l:List aS},lW l->l.Nodup:=λ{l} hl=>by unfold lW at hl;unfold List.Nodup;exact hl.imp λ{x y} hxy e=>Dz hxy (congrArg Prod.fst e)
 unfold lW at ha hb;refine List.Perm.eq_of_pairwise (le:=λx y=>Op.bytesLess x.1 y.1=true) (λx y _ _ h1 h2=>?_) ha hb ((azJ (nd (l:=a) ha) (nd (l:=b) hb)).2 h);exact(Dz (AQ _ _ _ h1 h2) rfl).elim
theorem aq3{a b:List aS}(ha:P9 a)(hb:P9 b)(h:∀t,bf a t=bf b t):a=b:=
 arV ha.1 hb.1 λx=>by rw[ab1 ha,ab1 hb,h]
theorem ab2{fs:List fD}{a:List aS}(h:iy fs a=true):P9 a:=by obtain⟨h1,h2⟩:=Bz.1 h;refine⟨h2,λx hx e=>?_⟩;have:=h1 x hx;unfold iO at this;rw[aw0 e]at this;simp at this
def asx(fs:List fD)(l:List aS):Prop:=∀x∈l,x.2.1≠0->iO fs x.1 x.2.1 x.2.2.1 x.2.2.2.1=true
theorem Wn{fs:List fD}:∀{l a:List aS},iy fs a=true->asx fs l->iy fs (oK a l)=true
 |[],_,h,_=>h
 |x::r,a,h,hf=>by
  refine Wn (l:=r) (show iy fs (dU a x.1 x.2.1 x.2.2.1 x.2.2.2.1)=true from ?_) λy hy=>hf y (aw6 _ hy);by_cases hk:x.2.1=0
  .obtain⟨h1,h2⟩:=Bz.1 h;show iy fs (dU a x.1 x.2.1 x.2.2.1 x.2.2.2.1)=true;unfold dU;rw[aw0 hk];exact Bz.2 ⟨λy hy=>h1 y (axF.1 hy).1,ay9 _ h2⟩
  .exact anF h (hf x aw5 hk) hk
theorem as8{fs:List fD}{l a:List aS}(hl:lW l)(h:iy fs (oK a l)=true):asx fs l:=λx hx hk=>by have e:=Fg (a:=a) hl hx;unfold Yo at e;rw[awS.2 hk]at e;exact(Bz.1 h).1 x ((ab1 (ab2 h) x).2 ⟨hk,e⟩)
def jQ(l:List aS)(i:Nat):List aS:=l.take i++l.drop (i+1)
theorem PS(l:List aS)(i:Nat):(jQ l i).Sublist l:=by
 unfold jQ;have:=(List.drop_sublist 1 (l.drop i)).append_left (l.take i);rw[ayj,ayh,azm]at this
 rwa [azm]at this
def edited(f:aF)(l:List aS):aF:=(f.1,f.2.1,f.2.2.1,f.2.2.2.1,oK f.2.2.2.2.1 l,())
theorem Gm{fs:List fD}{f:aF}(h:bT fs f=true):iy fs f.2.2.2.2.1=true:=by unfold bT at h;simp only[awP]at h;exact h.1.1.1.1
theorem alb{fs:List fD}{f:aF}{l:List aS}(h:bT fs f=true)(hl:iy fs (oK f.2.2.2.2.1 l)=true):bT fs (edited f l)=true:=by unfold bT at h ⊢;rw[Gm (by unfold bT;exact h)]at h;show(iy fs (oK f.2.2.2.2.1 l)&&_&&_&&_&&_)=true;rw[hl];exact h
theorem anG{fs:List fD}{f:aF}{l:List aS}(i:Nat)(hf:bT fs f=true)(ha:lW l)(h:bT fs (edited f l)=true):bT fs (edited f (jQ l i))=true:=
 alb hf (Wn (Gm hf) λx hx=>as8 ha (Gm h) x ((PS l i).subset hx))
theorem anH{fs:List fD}{f:aF}{l:List aS}{i:Nat}(hf:bT fs f=true)(ha:lW l)(hi:i<l.length)(h:bf f.2.2.2.2.1 l[i].1=Yo l[i]):edited f (jQ l i)=edited f l:=by
 have n:=ab2 (Gm hf);have e:oK f.2.2.2.2.1 (jQ l i)=oK f.2.2.2.2.1 l:=by
  refine aq3 (UU n) (UU n) λt=>?_;have hs:=PS l i;have ha':lW (jQ l i):=List.Pairwise.sublist hs ha;by_cases ht:∃x∈jQ l i,x.1=t
  .obtain⟨x,hx,rfl⟩:=ht;rw[Fg ha' hx,Fg ha (hs.subset hx)]
  .rw[Gt λx hx e=>ht ⟨x,hx,e⟩];by_cases ht2:∃x∈l,x.1=t
   .obtain⟨x,hx,rfl⟩:=ht2;rw[Fg ha hx];have:x=l[i]:=by
     obtain⟨j,hj,rfl⟩:=axu hx;by_cases e:j=i
     .subst e;rfl
     .refine(ht ⟨l[j],?_,rfl⟩).elim;unfold jQ;rw[axb];rcases aw8 j i with h1|h1
      .exact .inl (List.mem_take_iff_getElem.2 ⟨j,by omega,rfl⟩)
      .exact .inr (List.mem_drop_iff_getElem.2 ⟨j-(i+1),by omega,by congr 1;omega⟩)
    rw[this,h]
   .rw[Gt λx hx e=>ht2 ⟨x,hx,e⟩]
 unfold edited;rw[e]
theorem alc{f:aF}{l:List aS}(ha:lW l)(h:∀x∈l,bf f.2.2.2.2.1 x.1≠Yo x)(s:Bytes):s∈gX f (edited f l)↔s∈l.map λx=>x.1:=by
 unfold gX;rw[axF];constructor
 .rintro⟨_,h2⟩;refine axr λhn=>?_;have:bf (edited f l).2.2.2.2.1 s=bf f.2.2.2.2.1 s:=Gt λx hx e=>hn (axX.2 ⟨x,hx,e⟩);rw[this,aw0 rfl]at h2;cases h2
 .intro hs;obtain⟨x,hx,rfl⟩:=axX.1 hs;have e:bf (edited f l).2.2.2.2.1 x.1=Yo x:=Fg ha hx;have hne:bf f.2.2.2.2.1 x.1≠bf (edited f l).2.2.2.2.1 x.1:=by rw[e];exact h x hx
  refine⟨axr λhn=>?_,by rw[aw1 hne];rfl⟩;have:∀a∈f.2.2.2.2.1++(edited f l).2.2.2.2.1,a.1≠x.1:=λa ha e=>hn (axX.2 ⟨a,ha,e⟩);exact hne (by rw[DK λa ha=>this a (axb.2 (.inl ha)),DK λa ha=>this a (axb.2 (.inr ha))])
theorem anz{r:LS}{f:aF}{l:List aS}(ha:lW l)(h:∀x∈l,bf f.2.2.2.2.1 x.1≠Yo x)(hn:r.Nodup)(hr:∀s,(s,())∈r↔s∈gX f (edited f l)):r.length=l.length:=by
 have hl:(l.map λx=>(x.1,())).Nodup:=by unfold List.Nodup;rw[azq];exact List.Pairwise.imp (λ{x y} hxy e=>Dz hxy (congrArg Prod.fst e)) ha
 have:=List.Perm.length_eq ((azJ hn hl).2 λ⟨s,⟨⟩⟩=>by rw[hr,alc ha h];simp)
 rwa [aw4]at this
end Sp
namespace Sp
open Go
theorem DF{s:bP}:aC s=true↔(∀f∈s.2.1,bT s.1 f=true/\f.1<s.2.2.1)/\(s.2.1.Pairwise λf g=>f.1<g.1)/\fO s.1=true/\s.2.1.length<=12/\1<=s.2.2.1/\s.2.2.1<=61:=by
 have at_:∀i(hi:i<s.2.1.length),fileAt s.2.1 i=s.2.1[i]:=λi hi=>by unfold fileAt;rw[awR,awV hi];rfl
 constructor
 .intro h;obtain⟨h1,h2,h3,h4,h5⟩:=jU.1 h;refine⟨λf hf=>?_,?_,h2,h3,h4,h5⟩
  .obtain⟨i,hi,rfl⟩:=P6 hf;obtain⟨k1,k2,_⟩:=kN.1 (h1 i hi);exact⟨k1,k2⟩
  .refine azj.2 λi j hi hj hij=>?_;have:=aie h j i hij hj
   rwa [at_ i hi,at_ j hj]at this
 .rintro⟨h1,h2,h3⟩;refine jU.2 ⟨λi hi=>kN.2 ⟨(h1 _ (P7 hi)).1,(h1 _ (P7 hi)).2,λh0=>?_⟩,h3⟩;rw[at_ i hi,at_ (i-1) (by omega)];exact azj.1 h2 (i-1) i (by omega) hi (by omega)
theorem ald{fs:List fD}{gs:List aF}{f:aF}(h:bT fs f=true):bT fs (unlink gs f)=true:=by
 unfold bT at h ⊢;unfold unlink;cases decide (place gs f.2.2.2.1<0)with
 |false=>exact h
 |true=>rw[awP]at h ⊢;exact⟨h.1,rfl⟩
theorem PL{s:bP}(u:Int)(h:aC s=true):aC (visible s u)=true:=by
 obtain⟨h1,h2,h3,h4,h5⟩:=DF.1 h;refine DF.2 ⟨λf hf=>?_,?_,h3,?_,h5⟩
 .have hf:f∈(s.2.1.filter (iR · u)).map (unlink (s.2.1.filter (iR · u))):=hf;obtain⟨g,hg,rfl⟩:=axX.1 hf;obtain⟨g1,_⟩:=axF.1 hg;exact⟨ald (h1 g g1).1,(h1 g g1).2⟩
 .show List.Pairwise _ ((s.2.1.filter (iR · u)).map (unlink (s.2.1.filter (iR · u))));rw[azq];exact ay9 _ h2
 .show((s.2.1.filter (iR · u)).map (unlink (s.2.1.filter (iR · u)))).length<=12;rw[aw4];exact aw2 (axh _ _) h4
open Classical in
noncomputable def uh (fs:List aF) (d:List aV):List dI:=if h:∃out,gq fs d [] (λ_=>true) out then h.choose else[]
theorem akp{fs:List aF}{d:List aV}{out:List dI}(hd:gm d=true)(h:gq fs d [] (λ_=>true) out):uh fs d=out:=by unfold uh;have hx:∃out,gq fs d [] (λ_=>true) out:=⟨out,h⟩;rw[dif_pos hx];exact Ll hd hx.choose_spec h
theorem Hr{d:List aV}(h:aB d=true):gm d=true:=by unfold aB at h;rw[awP]at h;exact h.1
theorem akq{s:bP}{d:List aV}(h:aC s=true)(hd:aB d=true):gq s.2.1 d [] (λ_=>true) (uh s.2.1 d):=by
 have:∃out,gq s.2.1 d [] (λ_=>true) out:=by obtain⟨aH,hl⟩:=agQ (KZ (lg d) (lH.1 hd).2);exact Xu [] (λ_=>true) (Hr hd) hl (xI h)
 unfold uh;rw[dif_pos this];exact this.choose_spec
noncomputable def Qa (s:bP) (d:List aV) (u:Int) (name:Bytes):List (Int×Unit):=fF (uh (visible s u).2.1 d) name
noncomputable def listed (s:bP) (d:List aV) (u:Int) (name:Bytes) (id:Int):Bool:=fE (Qa s d u name) id
def jI(s:bP)(d:List aV)(u:Int):Prop:=aC s=true/\aB d=true/\Oh u=true
def iI(d:List aV)(name:Bytes):aV×Bool:=bif decide (aP d name<0)then(([],[],()),false)else(dN d (aP d name).toNat,true)
def aik(s:bP)(u id:Int):aF:=(aj (visible s u) id).1
def tu(q:List bI)(f:aF)(X:BX)(m:Bool):wX:=bif aZ q then dH q f X (q.length-1) m else IU
noncomputable def ql (c:dR) (u:Int) (name:Bytes) (id:Int) (b:Bool):wX:=
 tu (iI (cZ c) name).1.2.1 (aik (aW c) u id) (aO (uh (visible (aW c) u).2.1 (cZ c))) b
def kS(c:dR)(id:Int)(l:List aS):bP×Bool:=aQ (aW c) (edited (aj (aW c) id).1 l)
noncomputable def needed (c:dR) (u:Int) (name:Bytes) (id:Int) (b:Bool) (l:List aS) (i:Nat):Bool:=
 (kS c id (jQ l i)).2&&!(listed (kS c id (jQ l i)).1 (cZ c) u name id==b)
noncomputable def uK (c:dR) (u:Int) (name:Bytes) (id:Int) (b:Bool) (w:wX):Bool:=
 w.1&&((kS c id w.2.1).2&&((listed (kS c id w.2.1).1 (cZ c) u name id==b)&&jK w.2.1.length (needed c u name id b w.2.1)))
noncomputable def wY (c:dR) (u:Int) (name:Bytes) (id:Int) (b:Bool):Bool:=
 (dX c&&(kK c u id&&(iI (cZ c) name).2))&&uK c u name id b (ql c u name id b)
def written(c:dR)(u:Int)(name:Bytes)(id:Int)(b:Bool)(c':dR)(set:List aS)(ok:Bool):Prop:=
 ok=wY c u name id b/\(ok=true->aW c'=(kS c id (ql c u name id b).2.1).1/\cZ c'=cZ c/\dX c'=true/\set=(ql c u name id b).2.1)/\(ok=false->c'=c/\set=[])
theorem OE{c:dR}{u id:Int}(h:kK c u id=true):Oh u=true:=by unfold kK nG at h;simp only[awP]at h;unfold Oh;rw[h.2.1.1,h.2.1.2];rfl
theorem Oi{c:dR}(h:dX c=true):aC (aW c)=true/\aB (cZ c)=true/\gq c.2.1 (cZ c) [] (λ_=>true) (wW c):=by unfold dX at h;simp only[awP,axj]at h;exact⟨h.1.2,h.1.1,h.2⟩
theorem as9{a b:dR}(ha:dX a=true)(hb:dX b=true)(hs:aW a=aW b)(hd:cZ a=cZ b):a=b:=by obtain⟨_,a2,a3⟩:=Oi ha;obtain⟨_,_,b3⟩:=Oi hb;obtain⟨p,q,r,d,e,⟨⟩⟩:=a;obtain⟨p',q',r',d',e',⟨⟩⟩:=b;have hs:(p,q,r,())=(p',q',r',()):=hs;have hd:d'=d:=hd.symm;cases hs;cases hd;have:e=e':=Ll (Hr a2) a3 b3;cases this;rfl
theorem ahU{c:dR}{id:Int}{l:List aS}(hf:(aj (aW c) id).2=true)(h:(kS c id l).2=true):
 aj (kS c id l).1 id=(edited (aj (aW c) id).1 l,true)/\aC (kS c id l).1=true/\bT (aW c).1 (edited (aj (aW c) id).1 l)=true/\aC (aW c)=true:=by
 have e:=ala h;have hid:(edited (aj (aW c) id).1 l).1=id:=(Fe hf).2;rw[hid]at e;refine⟨e.1,e.2,?_⟩;rcases iC (aW c) (edited (aj (aW c) id).1 l)with⟨h1,_⟩|⟨n,hn,h1,h2,h3,_⟩
 .unfold kS at h;rw[h1]at h;cases h
 .exact⟨h3,h2⟩
theorem arP{c:dR}{id:Int}{l:List aS}(i:Nat)(hf:(aj (aW c) id).2=true)(ha:lW l)(h:(kS c id l).2=true):(kS c id (jQ l i)).2=true:=by
 obtain⟨_,_,h3,h4⟩:=ahU hf h;have hm:=Fe hf;have h5:=anG i ((DF.1 h4).1 _ hm.1).1 ha h3;unfold kS;rcases iC (aW c) (edited (aj (aW c) id).1 (jQ l i))with⟨_,h2⟩|⟨n,hn,h1,h2,h3,e⟩
 .refine(h2 ⟨h4,?_,h5⟩).elim;have:(edited (aj (aW c) id).1 (jQ l i)).1=id:=hm.2;rw[this];have:=LV (aW c) id;rw[hf]at this;have:¬place (aW c).2.1 id<0:=by simpa using this.symm
  omega
 .rw[e]
theorem afy{c:dR}{u:Int}{name:Bytes}{id:Int}{b:Bool}:lW (ql c u name id b).2.1:=by
 unfold ql tu;cases aZ (iI (cZ c) name).1.2.1 with
 |true=>exact apE _ _ _ _ _
 |false=>exact List.Pairwise.nil
theorem apF{s:bP}{d:List aV}{u:Int}{name:Bytes}{id:Int}(hs:aC s=true)(hd:aB d=true)(h:listed s d u name id=true):
 (iI d name).2=true/\iH (iI d name).1.2.1 (aik s u id) (aO (uh (visible s u).2.1 d))=true:=by
 have hv:=PL u hs;have E:=akq hv hd;unfold listed Qa at h;by_cases hn:∃i,i<d.length/\nameOf d i=name
 .obtain⟨i,hi,rfl⟩:=hn;have hp:=P8 (Hr hd) hi;have ef:iI d (nameOf d i)=(dN d i,true):=by unfold iI;rw[hp,aw1 (by omega)];rfl
  rw[ef];refine⟨rfl,?_⟩;rw[sV (Hr hd) E.order hi,E.fix i hi rfl]at h;obtain⟨f,hf,e,hm⟩:=acs.1 (Gs.1 h);have:aik s u id=f:=by unfold aik;rw[← e,abW hv hf]
  rw[this];exact hm
 .have:=J4 E.order (s:=name) λi hi e=>hn ⟨i,hi,e⟩;rw[this]at h;cases h
theorem LH{c:dR}{u:Int}{name:Bytes}{id:Int}{b:Bool}(h:wY c u name id b=true):
 dX c=true/\kK c u id=true/\(iI (cZ c) name).2=true/\(ql c u name id b).1=true/\(kS c id (ql c u name id b).2.1).2=true/\
 listed (kS c id (ql c u name id b).2.1).1 (cZ c) u name id=b/\∀i,i<(ql c u name id b).2.1.length->needed c u name id b (ql c u name id b).2.1 i=true:=by
 unfold wY uK at h;simp only[awP]at h;exact⟨h.1.1,h.1.2.1,h.1.2.2,h.2.1,h.2.2.1,by simpa using h.2.2.2.1,λi hi=>axk.1 h.2.2.2.2 i (axN.2 hi)⟩
theorem apG(f:aF):edited f []=f:=rfl
theorem am0{s:bP}{id:Int}(hs:aC s=true)(h:(aj s id).2=true):aQ s (aj s id).1=(s,true):=by
 have hm:=Fe h;rcases iC s (aj s id).1 with⟨_,h2⟩|⟨n,hn,h1,h2,h3,e⟩
 .refine(h2 ⟨hs,?_,((DF.1 hs).1 _ hm.1).1⟩).elim;rw[hm.2];have:=LV s id;rw[h]at this;have:¬place s.2.1 id<0:=by simpa using this.symm
  omega
 .rw[e];have e2:aj s (aj s id).1.1=(fileAt s.2.1 n,true):=as7 hn h1;rw[hm.2]at e2;have e3:(aj s id).1=fileAt s.2.1 n:=congrArg Prod.fst e2;have e4:s.2.1.set n (fileAt s.2.1 n)=s.2.1:=by
   have:fileAt s.2.1 n=s.2.1[n]:=by unfold fileAt;rw[awR,awV hn];rfl
   rw[this,List.set_getElem_self]
  rw[e3,e4]
theorem ak6{c x y:dR}{u:Int}{name:Bytes}{id:Int}{set set2:List aS}{ok2:Bool}(h:written c u name id true x set true)(h2:written x u name id true y set2 ok2):
 ok2=true/\set2=[]/\y=x:=by
 obtain⟨hm,hx,_⟩:=h;obtain⟨p1,p2,p3,p4,p5,p6,p7⟩:=LH hm.symm;obtain⟨xs,xd,xc,_⟩:=hx rfl;have hf:=(Gn p2).1;obtain⟨q1,q2,_,_⟩:=ahU hf p5;rw[← xs]at q1 q2 p6;obtain⟨r1,r2⟩:=apF q2 (Oi p1).2.1 p6;have w:ql x u name id true=(true,[],()):=by unfold ql tu;rw[xd];unfold iH at r2;rw[awP]at r2;rw[r2.1];show dH _ _ _ _ _=_;rw[dH,if_pos r2.2]
 have hf2:(aj (aW x) id).2=true:=by rw[q1]
 have hp:kS x id []=(aW x,true):=by unfold kS;rw[apG];exact am0 q2 hf2
 have m:wY x u name id true=true:=by
  unfold wY uK;rw[w];dsimp only;rw[hp,xc,xd,p3,p6];have:kK x u id=true:=by unfold kK at p2 ⊢;rw[q1];rw[awP]at p2;exact p2.2
  rw[this];rfl
 obtain⟨g1,g2,_⟩:=h2;rw[m]at g1;subst g1;obtain⟨k1,k2,k3,k4⟩:=g2 rfl;rw[w]at k1 k4;dsimp only at k1 k4;rw[hp]at k1;exact⟨rfl,k4,as9 k3 xc k1 k2⟩
theorem adY{c x:dR}{u:Int}{name:Bytes}{id:Int}{b:Bool}{set:List aS}(h:written c u name id b x set true):
 dX x=true/\listed (aW x) (cZ x) u name id=b/\aj (aW x) id=(edited (aj (aW c) id).1 set,true)/\lW set/\∀a∈set,bf (aj (aW c) id).1.2.2.2.2.1 a.1≠Yo a:=by
 obtain⟨hm,hx,_⟩:=h;obtain⟨p1,p2,p3,p4,p5,p6,p7⟩:=LH hm.symm;obtain⟨xs,xd,xc,rfl⟩:=hx rfl;have hf:=(Gn p2).1;obtain⟨q1,q2,q3,q4⟩:=ahU hf p5;refine⟨xc,by rw[xs,xd];exact p6,by rw[xs];exact q1,afy,λa ha e=>?_⟩;obtain⟨i,hi,rfl⟩:=axu ha;have hl:=anH ((DF.1 q4).1 _ (Fe hf).1).1 afy hi e;have hn:=p7 i hi;unfold needed at hn;rw[awP]at hn;have h2:=hn.2;have e2:kS c id (jQ (ql c u name id b).2.1 i)=kS c id (ql c u name id b).2.1:=by unfold kS;rw[hl]
 rw[e2,p6]at h2;simp at h2
end Sp
namespace Go.Fw
open Go
theorem Xi{α:Type}{l:List α}{lo:Nat}{news:List α}(h:lo+news.length<=l.length):(dF l lo news).length=l.length:=by unfold dF;simp only[awW,awT,axt];omega
theorem aaN{α:Type}{l:List α}{lo k:Nat}{news:List α}(hk:k<=lo)(h:lo<=l.length):(dF l lo news).take k=l.take k:=by unfold dF;rw[axA,axV (by rw[awT];omega),ayy,ayt hk]
theorem eqL{α β:Type}(e:α->α->Bool)(he:∀x y,e x y=false↔x=y)(d:α)(a b:List α)[Decidable (a=b)](t:β)(hlen:a.length<=maxLen){K:Bool×Unit->Prop}(hK:K (decide (a=b),())):
 bif ((a.length:Int)) !=(b.length:Int)then K (false,())else
 ∃(I:(Int×Unit)×Unit->Prop),∃(μ:(Int×Unit)×Unit->Nat),I (((0:Int),()),())/\∀(y:(Int×Unit)×Unit),I y->
  bif decide (y.fst.fst<(a.length:Int))then
   ((0:Int)<=y.fst.fst/\y.fst.fst<(a.length:Int))/\((0:Int)<=y.fst.fst/\y.fst.fst<(b.length:Int))/\
     (bif e (a.getD (Int.toNat y.fst.fst) d) (b.getD (Int.toNat y.fst.fst) d)then K (false,())
     else t=t/\I ((IntKind.i64.wrap (y.fst.fst+(1:Int)),()),())/\μ ((IntKind.i64.wrap (y.fst.fst+(1:Int)),()),())<μ y)
  else K (true,()):=by
 rw[maxLen_eq]at hlen;refine af (λh=>?_) λh=>?_
 .have h:(a.length:Int)≠b.length:=by simpa using h
  rw[aw1 λe=>h (by rw[e])]at hK;exact hK
 .have h:(a.length:Int)=b.length:=by simpa using h
  exact VB e he d a b t hlen (by omega) (λe=>by rw[aw1 e]at hK;exact hK) λe=>by rw[aw0 e]at hK;exact hK
theorem atE{α β:Type}(e:α->α->Bool)(he:∀x y,e x y=false↔x=y)(d:α)(a b:List α)[Decidable (a=b)](t:β)(hlen:a.length<=maxLen){K:Bool×Unit->Prop}(hK:K (decide (a=b),())):
 bif ((a.length:Int)) !=(b.length:Int)then K (false,())else
 ∃(I:(Int×Unit)×Unit->Prop),∃(μ:(Int×Unit)×Unit->Nat),I (((0:Int),()),())/\∀(y:(Int×Unit)×Unit),I y->
  bif decide (y.fst.fst<(a.length:Int))then
   ((0:Int)<=y.fst.fst/\y.fst.fst<(a.length:Int))/\((0:Int)<=y.fst.fst/\y.fst.fst<(b.length:Int))/\True/\
     (bif e (a.getD (Int.toNat y.fst.fst) d) (b.getD (Int.toNat y.fst.fst) d)then K (false,())
     else t=t/\I ((IntKind.i64.wrap (y.fst.fst+(1:Int)),()),())/\μ ((IntKind.i64.wrap (y.fst.fst+(1:Int)),()),())<μ y)
  else K (true,()):=by
 rw[maxLen_eq]at hlen;refine af (λh=>?_) λh=>?_
 .have h:(a.length:Int)≠b.length:=by simpa using h
  rw[aw1 λe=>h (by rw[e])]at hK;exact hK
 .have h:(a.length:Int)=b.length:=by simpa using h
  exact aeM e he d a b t hlen (by omega) (λe=>by rw[aw1 e]at hK;exact hK) λe=>by rw[aw0 e]at hK;exact hK
theorem QX{α β:Type}(p:α->Bool)(d:α)(a:List α)(t:β)(hlen:a.length<=maxLen){K:Int×Unit->Prop}(hK:K (Sp.findAt p a,())):
 ∃(I:(Int×Unit)×Unit->Prop),∃(μ:(Int×Unit)×Unit->Nat),I (((0:Int),()),())/\∀(y:(Int×Unit)×Unit),I y->
  bif decide (y.fst.fst<(a.length:Int))then
   ((0:Int)<=y.fst.fst/\y.fst.fst<(a.length:Int))/\True/\
     (bif p (a.getD (Int.toNat y.fst.fst) d)then K (y.fst.fst,())
     else t=t/\I ((IntKind.i64.wrap (y.fst.fst+(1:Int)),()),())/\μ ((IntKind.i64.wrap (y.fst.fst+(1:Int)),()),())<μ y)
  else K ((-1:Int),()):=by
 rw[maxLen_eq]at hlen;refine je a.length hlen (λn=>∀i,i<n->p (a.getD i d)=false) (λi hi=>by omega) (λI μ n hn hJ next=>?_) λI μ hJ=>?_
 .dsimp only;refine bU (by omega) ⟨⟨by omega,by omega⟩,trivial,af (λh=>?_) λh=>⟨rfl,next λi hi=>?_⟩⟩
  .rw[Sp.akx hn hJ h]at hK;exact hK
  .rcases aw8 i n with h'|h'
   .exact hJ i h'
   .have:i=n:=by omega
    rw[this];exact h
 .dsimp only;refine bV (by omega) ?_;rw[Sp.ad6 hJ]at hK;exact hK
theorem aqx{α β:Type}(p:α->Bool)(d:α)(a:List α)(t:β)(hlen:a.length<=maxLen){K:Int×Unit->Prop}(hK:K (Sp.findAt p a,())):
 ∃(I:(Int×Unit)×Unit->Prop),∃(μ:(Int×Unit)×Unit->Nat),I (((0:Int),()),())/\∀(y:(Int×Unit)×Unit),I y->
  bif decide (y.fst.fst<(a.length:Int))then
   ((0:Int)<=y.fst.fst/\y.fst.fst<(a.length:Int))/\
     (bif p (a.getD (Int.toNat y.fst.fst) d)then K (y.fst.fst,())
     else t=t/\I ((IntKind.i64.wrap (y.fst.fst+(1:Int)),()),())/\μ ((IntKind.i64.wrap (y.fst.fst+(1:Int)),()),())<μ y)
  else K ((-1:Int),()):=by
 obtain⟨I,μ,h0,h1⟩:=QX p d a t hlen hK;refine⟨I,μ,h0,λy hy=>?_⟩;have:=h1 y hy;revert this;cases decide (y.fst.fst<(a.length:Int))with
 |true=>exactλh=>⟨h.1,h.2.2⟩
 |false=>exact id
theorem aob{α β:Type}(p:α->Bool)(d:α)(s:List α)(t:β)(hlen:s.length<=4611686018427387903){K:(List α×Unit)×Unit->Prop}(hK:K ((s.filter λx=>!p x,()),())):
 bif Sp.findAt p s==(-1:Int)then K ((s,()),())else
 ∃(I:(Int×Int×Unit)×List α×Unit->Prop),∃(μ:(Int×Int×Unit)×List α×Unit->Nat),
  I ((Sp.findAt p s,IntKind.i64.wrap (Sp.findAt p s+(1:Int)),()),s,())/\∀(y:(Int×Int×Unit)×List α×Unit),I y->
    bif decide (y.fst.snd.fst<(↑(List.length y.snd.fst):Int))then
     ((0:Int)<=y.fst.snd.fst/\y.fst.snd.fst<(↑(List.length y.snd.fst):Int))/\Int.toNat y.fst.snd.fst<List.length y.snd.fst/\True/\
       (bif !p (List.getD y.snd.fst (Int.toNat y.fst.snd.fst) d)then
         ((0:Int)<=y.fst.fst/\y.fst.fst<(↑(List.length y.snd.fst):Int))/\Int.toNat y.fst.fst<List.length y.snd.fst/\t=t/\
           I ((IntKind.i64.wrap (y.fst.fst+(1:Int)),IntKind.i64.wrap (y.fst.snd.fst+(1:Int)),()),List.set y.snd.fst (Int.toNat y.fst.fst) (List.getD y.snd.fst (Int.toNat y.fst.snd.fst) d),())/\
           μ ((IntKind.i64.wrap (y.fst.fst+(1:Int)),IntKind.i64.wrap (y.fst.snd.fst+(1:Int)),()),List.set y.snd.fst (Int.toNat y.fst.fst) (List.getD y.snd.fst (Int.toNat y.fst.snd.fst) d),())<μ y
       else t=t/\I ((y.fst.fst,IntKind.i64.wrap (y.fst.snd.fst+(1:Int)),()),y.snd.fst,())/\μ ((y.fst.fst,IntKind.i64.wrap (y.fst.snd.fst+(1:Int)),()),y.snd.fst,())<μ y)
    else
     (0:Nat)<List.length y.snd.fst/\((0:Int)<=y.fst.fst/\y.fst.fst<=(↑(List.length y.snd.fst):Int))/\
       (0:Nat)+Int.toNat y.fst.fst+(List.length y.snd.fst-Int.toNat y.fst.fst)<=List.length y.snd.fst/\
         ((0:Nat)<(dF y.snd.fst ((0:Nat)+Int.toNat y.fst.fst) (List.replicate (List.length y.snd.fst-Int.toNat y.fst.fst) d)).length/\
           List.length y.snd.fst<=(dF y.snd.fst ((0:Nat)+Int.toNat y.fst.fst) (List.replicate (List.length y.snd.fst-Int.toNat y.fst.fst) d)).length)/\
           ((0:Int)<=y.fst.fst/\y.fst.fst<=(↑(List.take (List.length y.snd.fst) (dF y.snd.fst ((0:Nat)+Int.toNat y.fst.fst) (List.replicate (List.length y.snd.fst-Int.toNat y.fst.fst) d))).length:Int))/\
             K ((List.take (Int.toNat y.fst.fst) (List.take (List.length y.snd.fst) (dF y.snd.fst ((0:Nat)+Int.toNat y.fst.fst) (List.replicate (List.length y.snd.fst-Int.toNat y.fst.fst) d))),()),()):=by
 rcases Sp.Lu p d s with⟨e,hno⟩|⟨n,hn,e,he,hne⟩
 .rw[e];have:s.filter (λx=>!p x)=s:=aze.2 λx hx=>by obtain⟨i,hi,rfl⟩:=axu hx;have:=hno i hi;rw[awR,awV hi]at this;exact congrArg Bool.not this
  rw[this]at hK;exact hK
 .rw[e];have e1:(((n:Nat):Int)==-1)=false:=by rw[awS];omega
  rw[e1];have w1:∀k:Nat,k<=4611686018427387903->IntKind.i64.wrap ((k:Int)+1)=((k+1:Nat):Int):=λk hk=>fQ _ (by omega);rw[w1 n (by omega)];refine⟨λy=>∃(i j:Nat)(l:List α),y=(((i:Int),(j:Int),()),l,())/\i<j/\j<=s.length/\l.length=s.length/\l.take i=(s.take j).filter (λx=>!p x)/\∀t,j<=t->l.getD t d=s.getD t d,
   λy=>((s.length:Int)-y.1.2.1).toNat,⟨n,n+1,s,rfl,by omega,by omega,rfl,?_,λ_ _=>rfl⟩,?_⟩
  .rw[Sp.take_succ' s n d hn,aya,ay7];have h1:(!p (s.getD n d))=false:=congrArg Bool.not he;rw[h1];have h2:(s.take n).filter (λx=>!p x)=s.take n:=aze.2 λx hx=>by
    obtain⟨i,hi,rfl⟩:=axu hx;have hi':i<n:=by rw[awT]at hi;omega
    have:=hne i hi';rw[awR,awV (by omega)]at this;rw[List.getElem_take];exact congrArg Bool.not this
   rw[h2];simp
  .rintro y ⟨i,j,l,rfl,hij,hj,hl,ht,hs⟩;dsimp only;refine af (λh=>?_) λh=>?_
   .have h:j<s.length:=by have h:=ax8 h;omega
    have hsj:=hs j (aw7 _);rw[awX,awX,hsj,w1 i (by omega),w1 j (by omega)];refine⟨⟨by omega,by omega⟩,by omega,trivial,af (λh2=>⟨⟨by omega,by omega⟩,by omega,rfl,⟨i+1,j+1,_,rfl,by omega,by omega,by rw[axe];exact hl,?_,λt ht=>?_⟩,by omega⟩) λh2=>⟨rfl,⟨i,j+1,l,rfl,by omega,by omega,hl,?_,λt ht=>hs t (by omega)⟩,by omega⟩⟩
    .rw[Sp.take_succ' _ i d (by rw[axe];omega),Sp.take_succ' s j d h,aya,ay7,List.take_set_of_le (aw7 _),ht];have h3:(!p (s.getD j d))=true:=h2;rw[h3,awR,ayX,if_pos rfl,if_pos (by omega)];rfl
    .rw[awR,ayX,if_neg (by omega),← awR];exact hs t (by omega)
    .rw[Sp.take_succ' s j d h,aya,ay7,ht];have h3:(!p (s.getD j d))=false:=h2;rw[h3];simp
   .have h:j=s.length:=by have h:=of_decide_eq_false h;omega
    rw[awX,axn];have l1:(dF l i (List.replicate (l.length-i) d)).length=l.length:=Xi (by rw[ayZ];omega);refine⟨by omega,⟨by omega,by omega⟩,by omega,⟨by rw[l1];omega,by rw[l1];omega⟩,⟨by omega,by rw[awT,l1];omega⟩,?_⟩;rw[ayy,ayt (by omega),aaN (aw7 _) (by omega),ht,h,aw9];exact hK
end Go.Fw
namespace Go.Fw
open Go
theorem arH{α β:Type}(p:α->Bool)(d:α)(a:List α)(t:β)(hlen:a.length<=maxLen){K:Bool×Unit->Prop}(hK:K (a.any p,())):
 ∃(I:(Int×Unit)×Unit->Prop),∃(μ:(Int×Unit)×Unit->Nat),I (((0:Int),()),())/\∀(y:(Int×Unit)×Unit),I y->
  bif decide (y.fst.fst<(a.length:Int))then
   ((0:Int)<=y.fst.fst/\y.fst.fst<(a.length:Int))/\
     (bif p (a.getD (Int.toNat y.fst.fst) d)then K (true,())
     else t=t/\I ((IntKind.i64.wrap (y.fst.fst+(1:Int)),()),())/\μ ((IntKind.i64.wrap (y.fst.fst+(1:Int)),()),())<μ y)
  else K (false,()):=by
 rw[maxLen_eq]at hlen;refine je a.length hlen (λn=>∀i,i<n->p (a.getD i d)=false) (λi hi=>by omega) (λI μ n hn hJ next=>?_) λI μ hJ=>?_
 .dsimp only;refine bU (by omega) ⟨⟨by omega,by omega⟩,af (λh=>?_) λh=>⟨rfl,next λi hi=>?_⟩⟩
  .have:a.any p=true:=axQ.2 ⟨a.getD n d,by rw[awR,awV hn];exact ayb hn,h⟩;rw[this]at hK;exact hK
  .rcases aw8 i n with h'|h'
   .exact hJ i h'
   .have:i=n:=by omega
    rw[this];exact h
 .dsimp only;refine bV (by omega) ?_;have:a.any p=false:=by rw[ayU];intro x hx;obtain⟨i,hi,rfl⟩:=axu hx;have:=hJ i hi;rw[awR,awV hi]at this;simpa using this
  rw[this]at hK;exact hK
theorem Xp{α:Type}(p:α->Bool)(s:List α):decide (Sp.findAt p s>=0)=s.any p:=by
 cases hs:s with
 |nil=>rfl
 |cons d r=>
  rw[← hs];rcases Sp.Lu p d s with⟨e,h⟩|⟨n,hn,e,h1,h2⟩
  .rw[e,aw1 (by omega)]
   symm
   rw[ayU];intro x hx;obtain⟨i,hi,rfl⟩:=axu hx;have:=h i hi;rw[awR,awV hi]at this;simpa using this
  .rw[e,aw0 (by omega)]
   symm
   exact axQ.2 ⟨s.getD n d,by rw[awR,awV hn];exact ayb hn,h1⟩
theorem jF{α:Type}(p:α->Bool)(d:α)(l:List α){n:Nat}(h:n<l.length):(l.take (n+1)).filter p=(l.take n).filter p++(bif p (l.getD n d)then[l.getD n d]else[]):=by rw[Sp.take_succ' l n d h,aya,ay7];cases p (l.getD n d)<;>rfl
theorem ae2{α β δ:Type}(p:α->Bool)(g:α->β)(d:α)(a:List α)(t:δ){A:Int->Prop}(hA:∀n:Nat,n<a.length->A n)(hlen:a.length<=4000000){K:List β×Unit->Prop}(hK:K ((a.filter p).map g,())):
 ∃(I:(Unit×Int×Unit)×List β×Unit->Prop),∃(μ:(Unit×Int×Unit)×List β×Unit->Nat),I (((),(0:Int),()),[],())/\∀(y:(Unit×Int×Unit)×List β×Unit),I y->
  bif decide (y.1.2.1<(a.length:Int))then
   ((0:Int)<=y.1.2.1/\y.1.2.1<(a.length:Int))/\A y.1.2.1/\
     (bif p (a.getD (Int.toNat y.1.2.1) d)then List.length y.2.1+1<=big/\t=t/\I (((),IntKind.i64.wrap (y.1.2.1+(1:Int)),()),y.2.1++[g (a.getD (Int.toNat y.1.2.1) d)],())/\μ (((),IntKind.i64.wrap (y.1.2.1+(1:Int)),()),y.2.1++[g (a.getD (Int.toNat y.1.2.1) d)],())<μ y
     else t=t/\I (((),IntKind.i64.wrap (y.1.2.1+(1:Int)),()),y.2)/\μ (((),IntKind.i64.wrap (y.1.2.1+(1:Int)),()),y.2)<μ y)
  else K y.2:=by
 refine bZ (λi(x:List β)=>(((),i,()),x,())) (λy=>y.1.2.1) (λ_ _=>rfl) a.length (by omega) (λn l=>l=((a.take n).filter p).map g) (by simp) (λI μ n l hn hJ next=>?_) λI μ l hJ=>?_
 .subst hJ;have hl:(((a.take n).filter p).map g).length<=n:=by have:=axh p (a.take n);rw[aw4];rw[awT]at this;omega
  have step:=jF p d a hn;dsimp only;refine bU (by omega) ⟨⟨by omega,by omega⟩,hA n hn,af (λh=>⟨by rw[bM];omega,rfl,next _ ?_⟩) λh=>⟨rfl,next _ ?_⟩⟩
  .have h:p (a.getD n d)=true:=h;rw[step,h,axz];rfl
  .have h:p (a.getD n d)=false:=h;rw[step,h,axz];simp
 .subst hJ;dsimp only;refine bV (by omega) ?_;rw[aw9];exact hK
theorem amB{α β δ:Type}(g:α->β)(d:α)(a:List α)(t:δ)(hlen:a.length<=4000000){K:List β×Unit->Prop}(hK:K (a.map g,())):
 ∃(I:(Unit×Int×Unit)×List β×Unit->Prop),∃(μ:(Unit×Int×Unit)×List β×Unit->Nat),I (((),(0:Int),()),[],())/\∀(y:(Unit×Int×Unit)×List β×Unit),I y->
  bif decide (y.1.2.1<(a.length:Int))then
   ((0:Int)<=y.1.2.1/\y.1.2.1<(a.length:Int))/\
     List.length y.2.1+1<=big/\t=t/\I (((),IntKind.i64.wrap (y.1.2.1+(1:Int)),()),y.2.1++[g (a.getD (Int.toNat y.1.2.1) d)],())/\μ (((),IntKind.i64.wrap (y.1.2.1+(1:Int)),()),y.2.1++[g (a.getD (Int.toNat y.1.2.1) d)],())<μ y
  else K y.2:=by
 obtain⟨I,μ,h0,h1⟩:=ae2 (λ_=>true) g d a t (A:=λ_=>True) (λ_ _=>trivial) hlen (K:=K) (by rw[aze.2 λ_ _=>rfl];exact hK);refine⟨I,μ,h0,λy hy=>?_⟩;have:=h1 y hy;revert this;cases decide (y.1.2.1<(a.length:Int))with
 |true=>exactλh=>⟨h.1,h.2.2⟩
 |false=>exact id
end Go.Fw
