import Derived.Test.YtncbcelpbmlgdaaGreatDoorFwA
import Derived.Lib.ItoaNum
import Derived.Lib.ItoaLen
import Derived.Lib.Join
import Derived.Test.YtncbcelpbmlgdaaGreatDoorFwC
import Derived.Lib.Fields
import Derived.Lib.Atoi
import Derived.Lib.SplitLaws
namespace Sp
open Go
abbrev Bytes:=List UInt8
abbrev LI:=List (Int×Unit)
abbrev LS:=List (Bytes×Unit)
theorem take_succ'{α:Type}(a:List α)(n:Nat)(d:α)(h:n<a.length):a.take (n+1)=a.take n++[a.getD n d]:=by rw[awu h,avr,avv h];rfl
def adp(l:LI):Prop:=∀x∈l,-9223372036854775808<=x.1/\x.1<=9223372036854775807
theorem adp.take{a:LI}(h:adp a)(n:Nat):adp (a.take n):=λx hx=>h x (aw2 hx)
theorem adp.get{a:LI}(h:adp a){n:Nat}(hn:n<a.length)(d:Int×Unit):(Lib.itoa (a.getD n d).1).length<=21:=by
 have:a.getD n d∈a:=by rw[avr,avv hn,axP];exact awV hn
 exact Lib.itoa_length_le _ (h _ this).1 (h _ this).2
theorem aeV(c:Nat):Lib.decDigits c=(if c / 10=0 then[]else Lib.decDigits (c / 10))++[UInt8.ofNat (48+c%10)]:=by
 conv=>lhs;rw[Lib.decDigits]
 by_cases h:c<10
 .rw[dif_pos h,if_pos abn,ayA h];rfl
 .rw[dif_neg h,if_neg abn]
end Sp
namespace Sp
open Go
set_option synthInstance.maxSize 100000
set_option synthInstance.maxHeartbeats 1000000
abbrev Ed:=Int×Int×Bytes×Unit
abbrev bg:=Bytes×Int×Int×Bytes×Unit
abbrev ak:=Int×Int×Int×Bytes×Int×Int×Bytes×Unit
abbrev aU:=Int×Int×Bool×Int×List bg×Unit
abbrev bC:=Bytes×List ak×Unit
abbrev AU:=Int×Int×Int×Bool×Int×List bg×Int×Bytes×List ak×Unit
instance:DecidableEq Ed:=inferInstance
instance:DecidableEq bg:=inferInstance
instance:DecidableEq ak:=inferInstance
instance:DecidableEq aU:=inferInstance
instance:DecidableEq bC:=inferInstance
instance:DecidableEq (Int×bC):=inferInstance
instance:DecidableEq (List bg×Int×bC):=inferInstance
instance:DecidableEq (Bool×Int×List bg×Int×bC):=inferInstance
instance aua:DecidableEq AU:=(inferInstance:DecidableEq (Int×Int×Int×Bool×Int×List bg×Int×bC))
instance:DecidableEq (List AU):=inferInstance
instance:DecidableEq (List AU×Bytes×Int×Unit):=inferInstance
def lower(s:Bytes):Bool:=s.all λc=>decide (97<=c.toNat)&&decide (c.toNat<=122)
def aW(s:Bytes):Bool:=lower s&&decide (1<=(s.length:Int))&&decide ((s.length:Int)<=6)
def eu(n:Int):Bool:=decide (0<=n)&&decide (n<=1000000000)
def idxFrom:Int->LI->Int
 |_,[]=>-1
 |k,x::r=>if eu x.1 then idxFrom (k+1) r else k
def idxOf(l:LI):Int:=idxFrom 0 l
def aoO(k:Int)(nc:Nat):Bool:=decide (1<=k)&&decide (k<=8)&&decide ((nc:Int)<=6)
def TF(k u:Int)(nc:Nat)(n:Bytes)(a:Int):Bytes:=
 bif !(aoO k nc)then[]else
 bif (decide ((nc:Int)>0)&&decide (k>2))then[]else
 bif (k==1&&(eu u&&(a==0&&n==[])))then[99,111,109,109,105,116,32]++Lib.itoa u else
 bif (k==2&&(eu u&&(eu a&&n==[])))then[99,114,97,115,104,32]++Lib.itoa u++[32]++Lib.itoa a else
 bif (k==3&&(eu u&&(aW n&&a==0)))then[119,97,116,99,104,32]++Lib.itoa u++[32]++n else
 bif (k==4&&(u==0&&(eu a&&n==[])))then[112,105,110,32]++Lib.itoa a else
 bif (k==5&&(u==0&&(eu a&&n==[])))then[117,110,112,105,110,32]++Lib.itoa a else
 bif (k==6&&(u==0&&(a==0&&n==[])))then[99,111,108,108,101,99,116]else
 bif (k==7&&(eu u&&(eu a&&aW n)))then[97,100,100,32]++Lib.itoa u++[32]++n++[32]++Lib.itoa a else
 bif (k==8&&(eu u&&(eu a&&aW n)))then[114,101,109,111,118,101,32]++Lib.itoa u++[32]++n++[32]++Lib.itoa a else[]
end Sp
namespace Sp
open Go
abbrev dW:=Bytes×Int×Unit
abbrev eX:=List dW×List aU×Int×Unit
instance:DecidableEq dW:=inferInstance
instance:DecidableEq (List dW):=inferInstance
instance:DecidableEq (List aU):=inferInstance
instance:DecidableEq (List aU×Int×Unit):=inferInstance
instance auG:DecidableEq eX:=(inferInstance:DecidableEq (List dW×List aU×Int×Unit))
def usual:List dW:=[([97],1,()),([98],1,()),([110],2,()),([116],2,())]
def vZ(f:aU):Prop:=f.2.2.2.2.1.length<=1000
def ng(s:eX):Prop:=s.1.length<=1000/\s.2.1.length<=1000/\∀f∈s.2.1,vZ f
def ji(n:Nat)(f:Nat->Bool):Bool:=(List.range n).all f
def dD(s:Bytes):Bool:=lower s&&decide (1<=(s.length:Int))&&decide ((s.length:Int)<=1)
def bJ(k n:Int)(s:Bytes):Bool:=
 bif decide (k=0)then decide (n=0)&&decide (s=[])
 else bif decide (k=1)then decide (0<=n)&&decide (n<=999)&&decide (s=[])
 else bif decide (k=2)then aW s&&decide (n=0)
 else false
def kindOf:List dW->Bytes->Int
 |[],_=>0
 |f::r,s=>bif decide (f.1=s)then f.2.1 else kindOf r s
def fieldAt(fs:List dW)(i:Nat):dW:=fs.getD i ([],0,())
def jF(fs:List dW)(i:Nat):Bool:=
 dD (fieldAt fs i).1&&(decide (1<=(fieldAt fs i).2.1)&&decide ((fieldAt fs i).2.1<=2))&&!(decide (0<i)&&!Op.bytesLess (fieldAt fs (i-1)).1 (fieldAt fs i).1)
def eG(fs:List dW):Bool:=ji fs.length (jF fs)&&decide ((fs.length:Int)<=5)
def jb(fs:List dW)(name:Bytes)(k n:Int)(s:Bytes):Bool:=bJ k n s&&!decide (k=0)&&decide (k=kindOf fs name)
def bU(as:List bg)(i:Nat):bg:=as.getD i ([],0,0,[],())
def jK(fs:List dW)(as:List bg)(i:Nat):Bool:=
 jb fs (bU as i).1 (bU as i).2.1 (bU as i).2.2.1 (bU as i).2.2.2.1&&!(decide (0<i)&&!Op.bytesLess (bU as (i-1)).1 (bU as i).1)
def kG(fs:List dW)(as:List bg):Bool:=ji as.length (jK fs as)
def dH(fs:List dW)(f:aU):Bool:=
 kG fs f.2.2.2.2.1&&eG fs&&(decide (1<=f.1)&&decide (f.1<=60))&&(decide (0<=f.2.1)&&decide (f.2.1<=2))&&(decide (0<=f.2.2.2.1)&&decide (f.2.2.2.1<=60))
def fileAt(fs:List aU)(i:Nat):aU:=fs.getD i (0,0,false,0,[],())
def lI(s:eX)(i:Nat):Bool:=
 dH s.1 (fileAt s.2.1 i)&&decide ((fileAt s.2.1 i).1<s.2.2.1)&&!(decide (0<i)&&!decide ((fileAt s.2.1 (i-1)).1<(fileAt s.2.1 i).1))
def bW(s:eX):Bool:=
 ji s.2.1.length (lI s)&&eG s.1&&decide ((s.2.1.length:Int)<=12)&&(decide (1<=s.2.2.1)&&decide (s.2.2.1<=61))
def zC:Int->List aU->Int->Int
 |_,[],_=>-1
 |k,f::r,id=>bif decide (f.1=id)then k else zC (k+1) r id
def place(fs:List aU)(id:Int):Int:=zC 0 fs id
def aqj(f:aU)(u:Int):Bool:=(decide (0<=u)&&decide (u<=2))&&(decide (f.2.1=u)||f.2.2.1)
def aoP(f:aU)(u:Int):Bool:=(decide (0<=u)&&decide (u<=2))&&decide (f.2.1=u)
def unlink(fs:List aU)(f:aU):aU:=(f.1,f.2.1,f.2.2.1,(bif decide (place fs f.2.2.2.1<0)then 0 else f.2.2.2.1),f.2.2.2.2.1,())
def visible(s:eX)(u:Int):eX:=
 let fs:=s.2.1.filter (aqj · u)
 (s.1,fs.map (unlink fs),s.2.2.1,())
def arf:aU:=(0,0,false,0,[],())
def TG(s:eX)(id:Int):aU×Bool:=
 bif decide (place s.2.1 id<0)then(arf,false)else(fileAt s.2.1 (place s.2.1 id).toNat,true)
def o9(name:Bytes)(b:bg):Bool:=!(b.1==name)
def qx(name:Bytes)(b:bg):Bool:=Op.bytesLess b.1 name||b.1==name
def X0(as:List bg)(a:bg):List bg:=as.takeWhile (qx a.1)++a::as.dropWhile (qx a.1)
def jV(as:List bg)(name:Bytes)(k n:Int)(s:Bytes):List bg:=
 bif decide (k=0)then as.filter (o9 name)else X0 (as.filter (o9 name)) (name,k,n,s,())
def bV(s:eX)(f:aU):eX×Int×Bool:=
 let g:aU:=(s.2.2.1,f.2)
 bif bW s&&decide ((s.2.1.length:Int)<12)&&dH s.1 g then((s.1,s.2.1++[g],s.2.2.1+1,()),s.2.2.1,true)else(s,0,false)
def ajY(s:eX)(f:aU):eX×Bool:=
 bif bW s&&!decide (place s.2.1 f.1<0)&&dH s.1 f then((s.1,s.2.1.set (place s.2.1 f.1).toNat f,s.2.2.1,()),true)else(s,false)
def fC(s:eX)(id:Int):eX×Bool:=
 bif bW s&&!decide (place s.2.1 id<0)then((s.1,s.2.1.eraseIdx (place s.2.1 id).toNat,s.2.2.1,()),true)else(s,false)
def aiY{α:Type}(p:α->Bool):Int->List α->Int
 |_,[]=>-1
 |k,f::r=>bif p f then k else aiY p (k+1) r
def findAt{α:Type}(p:α->Bool)(l:List α):Int:=aiY p 0 l
def fieldPlace(l:List dW)(name:Bytes):Int:=findAt (λf=>f.1==name) l
end Sp
namespace Sp
theorem aiZ:∀(n m:Nat)(L:Nat->Nat),(∀k,k<m->∃j,j<n/\L j=k)->m<=n
 |0,m,L,h=>by
  rcases axd m with h0|h0
  .omega
  .obtain⟨j,hj,_⟩:=h 0 h0;omega
 |n+1,m,L,h=>by
  by_cases hv:L n<m
  .have:=aiZ n (m-1) (λj=>if L n<L j then L j-1 else L j) λk hk=>by
    by_cases h1:k<L n
    .obtain⟨j,hj,e⟩:=h k abn;have:j≠n:=λe2=>by subst e2;omega
     exact⟨j,abn,by show(if _ then _ else _)=_;rw[if_neg abn];exact e⟩
    .obtain⟨j,hj,e⟩:=h (k+1) abn;have:j≠n:=λe2=>by subst e2;omega
     exact⟨j,abn,by show(if _ then _ else _)=_;rw[if_pos abn];omega⟩
   omega
  .have:=aiZ n m L λk hk=>by
    obtain⟨j,hj,e⟩:=h k hk;have:j≠n:=λe2=>by subst e2;omega
    exact⟨j,abn,e⟩
   omega
abbrev TJ:=List (Nat×Nat×Nat)
def iU(E:TJ)(L:Nat->Nat):Prop:=∀e∈E,L e.2.1+e.2.2<=L e.1
def ae8(E:TJ)(n:Nat):Prop:=∀e∈E,e.1<n/\e.2.1<n/\e.2.2<=1
def sumTo(n:Nat)(L:Nat->Nat):Nat:=match n with|0=>0|n+1=>sumTo n L+L n
theorem sumTo_le{L M:Nat->Nat}:∀n,(∀i,i<n->L i<=M i)->sumTo n L<=sumTo n M
 |0,_=>avt _
 |n+1,h=>Nat.add_le_add (sumTo_le n λi hi=>h i abn) (h n abn)
theorem ai0{L M:Nat->Nat}:∀n,(∀i,i<n->L i<=M i)->(∃i,i<n/\L i<M i)->sumTo n L<sumTo n M
 |0,_,⟨i,hi,_⟩=>abn
 |n+1,h,⟨i,hi,hl⟩=>by
  have h1:=sumTo_le n λj hj=>h j (axI hj);show sumTo n L+L n<sumTo n M+M n;by_cases e:i=n
  .subst e;omega
  .have:=ai0 n (λj hj=>h j (axI hj)) ⟨i,abn,hl⟩;have:=h n abn;omega
theorem QC{E:TJ}{n:Nat}(hE:ae8 E n):∀(s:Nat)(L:Nat->Nat),sumTo n L<=s->iU E L->∃M,iU E M/\∀i,i<n->M i<n
 |s,L,hs,hL=>by
  by_cases hall:∀i,i<n->L i<n
  .exact⟨L,hL,hall⟩
  .obtain⟨i,hi⟩:=Classical.not_forall.1 hall;have hi1:i<n/\n<=L i:=by
    by_cases h1:i<n
    .exact⟨h1,ayF λh2=>hi λ_=>h2⟩
    .exact(hi λh2=>(h1 h2).elim).elim
   have atV:∃k,k<n/\∀j,j<n->L j≠k:=by
    refine awL λhno=>?_;have:=aiZ n (n+1) (λj=>min (L j) n) λk hk=>by
     by_cases h1:k<n
     .refine awL λh2=>hno ⟨k,h1,λj hj e=>h2 ⟨j,hj,?_⟩⟩;show min (L j) n=k;omega
     .exact⟨i,hi1.1,by show min (L i) n=k;omega⟩
    omega
   obtain⟨k,hk,hno⟩:=atV;have hlt:sumTo n (λj=>if k<L j then L j-1 else L j)<sumTo n L:=by
    refine ai0 n (λj _=>?_) ⟨i,hi1.1,?_⟩
    .show(if _ then _ else _)<=_;split
     .exact Nat.sub_le _ _
     .exact avt _
    .show(if _ then _ else _)<_;rw[if_pos abn];omega
   match s,hs with
   |0,hs=>omega
   |s+1,hs=>refine QC hE s (λj=>if k<L j then L j-1 else L j) abn λe he=>?_;have h1:=hL e he;obtain⟨h2,h3,h4⟩:=hE e he;have n1:=hno e.1 h2;have n2:=hno e.2.1 h3;show(if k<L e.2.1 then L e.2.1-1 else L e.2.1)+e.2.2<=(if k<L e.1 then L e.1-1 else L e.1);split<;>split<;>omega
theorem LV{E:TJ}{n:Nat}(hE:ae8 E n)(h:∃L,iU E L):∃M,iU E M/\∀i,i<n->M i<n:=by obtain⟨L,hL⟩:=h;exact QC hE (sumTo n L) L (avt _) hL
structure Raises(E:TJ)(n:Nat)(R:(Nat->Nat)->Nat->Nat):Prop where
 up:∀L i,L i<=R L i
 fix:∀L,(∀i,i<n->R L i=L i)->iU E L
 below:∀L M,iU E M->(∀i,i<n->L i<=M i)->∀i,i<n->R L i<=M i
 same:∀L L',(∀i,i<n->L i=L' i)->∀i,i<n->R L i=R L' i
end Sp
namespace Sp
open Go
abbrev aV:=List dW×List aU×Int×List bC×Unit
abbrev arh:=Int×List dW×List aU×Int×List bC×Int×Unit
instance:DecidableEq (List ak):=inferInstance
instance:DecidableEq bC:=inferInstance
instance:DecidableEq (List bC):=inferInstance
instance:DecidableEq (List bC×Unit):=inferInstance
instance:DecidableEq (Int×List bC×Unit):=inferInstance
instance:DecidableEq (List aU×Int×List bC×Unit):=inferInstance
instance auQ:DecidableEq aV:=(inferInstance:DecidableEq (List dW×List aU×Int×List bC×Unit))
instance:DecidableEq (List bC×Int×Unit):=inferInstance
instance:DecidableEq (Int×List bC×Int×Unit):=inferInstance
instance:DecidableEq (List aU×Int×List bC×Int×Unit):=inferInstance
instance:DecidableEq (List dW×List aU×Int×List bC×Int×Unit):=inferInstance
instance au4:DecidableEq arh:=(inferInstance:DecidableEq (Int×List dW×List aU×Int×List bC×Int×Unit))
instance:DecidableEq (List arh):=inferInstance
def nodeAt(q:List ak)(i:Nat):ak:=q.getD i (0,0,0,[],0,0,[],())
def iZ(n:ak):Bool:=n.1==6||n.1==7
def pF(n:ak):Bool:=n.1==8||n.1==9
def dS(n:ak)(a:Int):Bool:=
 let kids:=decide (0<=n.2.1)&&decide (n.2.1<=a-1)&&decide (0<a)
 let two:=decide (0<=n.2.2.1)&&decide (n.2.2.1<=a-1)
 let bare:=n.2.2.2.1==[]&&(n.2.2.2.2.1==0&&(n.2.2.2.2.2.1==0&&n.2.2.2.2.2.2.1==[]))
 let flat:=n.2.1==0&&n.2.2.1==0
 let valued:=bJ n.2.2.2.2.1 n.2.2.2.2.2.1 n.2.2.2.2.2.2.1
 let void:=n.2.2.2.2.1==0&&(n.2.2.2.2.2.1==0&&n.2.2.2.2.2.2.1==[])
 bif n.1==1 then flat&&bare else bif n.1==2 then flat&&void&&dD n.2.2.2.1 else
 bif n.1==3 then flat&&dD n.2.2.2.1&&valued&&!(n.2.2.2.2.1==0)else bif n.1==4 then flat&&dD n.2.2.2.1&&valued&&n.2.2.2.2.1==1 else
 bif n.1==5 then kids&&n.2.2.1==0&&bare else bif n.1==6||n.1==7 then kids&&two&&bare else
 bif n.1==8||n.1==9 then flat&&void&&aW n.2.2.2.1 else false
def refsOf(a:Int)(n:ak):Nat:=(bif (iZ n||n.1==5)&&n.2.1==a then 1 else 0)+(bif iZ n&&n.2.2.1==a then 1 else 0)
def gX(q:List ak)(a:Int):Nat:=(q.map (refsOf a)).sum
def kV(q:List ak)(i:Nat):Bool:=dS (nodeAt q i) i&&!(decide ((i:Int)<(q.length:Int)-1)&&!(gX q i==1))
def ay(q:List ak):Bool:=ji q.length (kV q)&&(decide (1<=(q.length:Int))&&decide ((q.length:Int)<=9))
def dm(d:List bC)(i:Nat):bC:=d.getD i ([],[],())
def kK(d:List bC)(i:Nat):Bool:=aW (dm d i).1&&ay (dm d i).2.1&&!(decide (0<i)&&!Op.bytesLess (dm d (i-1)).1 (dm d i).1)
def ni(d:List bC):Bool:=ji d.length (kK d)&&decide ((d.length:Int)<=5)
def jW(q:List ak)(i:Nat)(out:List (Bool×Unit)):List (Bool×Unit):=
 let n:=nodeAt q i
 bif n.1==5 then out.set n.2.1.toNat (true,())else bif iZ n then(out.set n.2.1.toNat ((out.getD i (false,())).1,())).set n.2.2.1.toNat ((out.getD i (false,())).1,())else out
def iI(q:List ak):Nat->List (Bool×Unit)->List (Bool×Unit)
 |0,out=>out
 |n+1,out=>iI q n (jW q n out)
def negated(q:List ak):List (Bool×Unit):=bif ay q then iI q q.length (List.replicate q.length (false,()))else[]
def dV(q:List ak)(neg:Bool):List Bytes:=(List.range (negated q).length).filterMap λi=>bif pF (nodeAt q i)&&((negated q).getD i (false,())).1==neg then some (nodeAt q i).2.2.2.1 else none
def uf:Int->List bC->Bytes->Int
 |_,[],_=>-1
 |k,x::r,s=>bif x.1==s then k else uf (k+1) r s
def aF(d:List bC)(s:Bytes):Int:=uf 0 d s
def dn(d:List bC):TJ:=
 (List.range d.length).flatMap λi=>
   ((dV (dm d i).2.1 false).filterMap λs=>bif decide (0<=aF d s)then some (i,(aF d s).toNat,0)else none)++
   ((dV (dm d i).2.1 true).filterMap λs=>bif decide (0<=aF d s)then some (i,(aF d s).toNat,1)else none)
open Classical in
noncomputable def dP (d:List bC):Bool:=ni d&&decide (∃L,iU (dn d) L)
def Ci(x:aV):eX:=(x.1,x.2.1,x.2.2.1,())
noncomputable def bT (x:aV):Bool:=bW (Ci x)&&dP x.2.2.2.1
def jg(r:LS)(l:List Bytes):Prop:=r.length<=1000/\∀s,(s,())∈r↔s∈l
def wI(d:List bC)(aK:List (Int×Unit))(more:Int):LS->Int
 |[]=>0
 |x::r=>max (bif decide (0<=aF d x.1)then(aK.getD (aF d x.1).toNat (0,())).1+more else 0) (wI d aK more r)
def Ot(l:LS)(s:Bytes):LS:=
 let n:=(l.takeWhile λx=>Op.bytesLess x.1 s).length
 bif decide (n<l.length)&&(l.getD n ([],())).1==s then l else l.take n++[(s,())]++l.drop n
def raised(d:List bC)(aK r:List (Int×Unit)):Prop:=
 r.length=d.length/\(∀i,i<d.length->(aK.getD i (0,())).1<=(r.getD i (0,())).1)/\(∀B:Int,(∀i,i<d.length->(aK.getD i (0,())).1<=B)->∀i,i<d.length->(r.getD i (0,())).1<=B+5000)/\
 ((∀i,i<d.length->(r.getD i (0,())).1=(aK.getD i (0,())).1)->iU (dn d) λi=>(aK.getD i (0,())).1.toNat)/\
 ∀M,iU (dn d) M->(∀i,i<d.length->(aK.getD i (0,())).1<=M i)->∀i,i<d.length->(r.getD i (0,())).1<=M i
def eU(d:List bC):Prop:=d.length<=1000/\∀x∈d,x.2.1.length<=1000
def bP(x:aV):Prop:=ng (Ci x)/\eU x.2.2.2.1
end Sp
namespace Sp
open Go
end Sp
namespace Sp
open Go
theorem Xt(s:Bytes):∀(d:List bC)(k:Int),(uf k d s=-1/\∀x∈d,x.1≠s)\/∃n,n<d.length/\uf k d s=k+n/\(dm d n).1=s/\∀i,i<n->(dm d i).1≠s
 |[],k=>.inl ⟨rfl,λx hx=>afg⟩
 |x::r,k=>by
  by_cases h:x.1=s
  .right;refine⟨0,acA,?_,h,λi hi=>abn⟩;rw[uf,avS.2 h];simp
  .rcases Xt s r (k+1)with⟨h1,h2⟩|⟨n,h1,h2,h3,h4⟩
   .left;refine⟨by rw[uf,avp.2 h];exact h1,λy hy=>?_⟩;rcases avF.1 hy with rfl|hy
    .exact h
    .exact h2 y hy
   .right;refine⟨n+1,adK,by rw[uf,avp.2 h];show uf (k+1) r s=_;omega,h3,λi hi=>?_⟩;cases i with
    |zero=>exact h
    |succ i=>exact h4 i abn
theorem Ii(d:List bC)(s:Bytes):(aF d s=-1/\∀x∈d,x.1≠s)\/∃n,n<d.length/\aF d s=n/\(dm d n).1=s/\∀i,i<n->(dm d i).1≠s:=by
 rcases Xt s d 0 with h|⟨n,h1,h2,h3⟩
 .exact .inl h
 .exact .inr ⟨n,h1,by show uf 0 d s=_;omega,h3⟩
theorem IA{d:List bC}{s:Bytes}(h:0<=aF d s):aF d s<d.length:=by rcases Ii d s with⟨h1,_⟩|⟨n,h1,h2,_⟩<;>omega
theorem Fp{d:List bC}{i j m:Nat}:(i,j,m)∈dn d↔i<d.length/\∃s,((m=0/\s∈dV (dm d i).2.1 false)\/(m=1/\s∈dV (dm d i).2.1 true))/\0<=aF d s/\j=(aF d s).toNat:=by
 unfold dn;rw[ayb];constructor
 .rintro⟨k,hk,h⟩;rw[awh]at hk;rcases avR.1 h with h|h
  all_goals
   obtain⟨s,hs,e⟩:=axe.1 h;rw[cond_eq_ite]at e;split at e
   .next hp=>have hp:0<=aF d s:=awQ hp;cases e;exact⟨hk,s,by first|exact .inl ⟨rfl,hs⟩|exact .inr ⟨rfl,hs⟩,hp,rfl⟩
   .cases e
 .rintro⟨hi,s,h|h,hp,rfl⟩
  .obtain⟨rfl,hs⟩:=h;refine⟨i,awh.2 hi,avR.2 (.inl (axe.2 ⟨s,hs,?_⟩))⟩;rw[avD hp];rfl
  .obtain⟨rfl,hs⟩:=h;refine⟨i,awh.2 hi,avR.2 (.inr (axe.2 ⟨s,hs,?_⟩))⟩;rw[avD hp];rfl
theorem kU(d:List bC):ae8 (dn d) d.length:=by
 rintro⟨i,j,m⟩ he;obtain⟨h1,s,h2,h3,h4⟩:=Fp.1 he;have:=IA h3;refine⟨h1,?_,?_⟩
 .show j<_;omega
 .show m<=1;rcases h2 with⟨h,_⟩|⟨h,_⟩<;>omega
def lv(l:List (Int×Unit))(i:Nat):Int:=(l.getD i (0,())).1
theorem aip{l:List (Int×Unit)}{i:Nat}(hi:i<l.length)(x:Int)(k:Nat):lv (l.set i (x,())) k=if k=i then x else lv l k:=by
 unfold lv;rw[avr,avr];by_cases h:k=i
 .subst h;rw[awM hi,if_pos rfl];rfl
 .rw[awq (λe=>h e.symm),if_neg h]
theorem aiV{l:List (Int×Unit)}{i:Nat}(hi:i<l.length):(lv l i,())∈l:=by unfold lv;rw[avr,avv hi];exact awV hi
theorem am9{l:List (Int×Unit)}{p:Int->Prop}(h:∀i,i<l.length->p (lv l i)):∀x∈l,p x.1:=by intro x hx;obtain⟨i,hi,e⟩:=awS hx;have:=h i hi;unfold lv at this;rw[avr,avv hi]at this;rw[← e];exact this
theorem aqW{a b:List (Int×Unit)}(hl:a.length=b.length)(h:∀i,i<a.length->lv a i=lv b i):a=b:=by refine axN hl λi h1 h2=>?_;have:=h i h1;unfold lv at this;rw[avr,avr,avv h1,avv h2]at this;exact ayE this rfl
structure Hw(d:List bC)(aK cur:List (Int×Unit))(g:Int)(P:Nat×Nat×Nat->Prop):Prop where
 len:cur.length=d.length
 up:∀i,i<d.length->lv aK i<=lv cur i
 grow:∀B,(∀i,i<d.length->lv aK i<=B)->∀i,i<d.length->lv cur i<=B+g
 fix:(∀i,i<d.length->lv cur i=lv aK i)->∀e,P e->lv aK e.2.1+e.2.2<=lv aK e.1
 below:∀M,iU (dn d) M->(∀i,i<d.length->lv aK i<=M i)->∀i,i<d.length->lv cur i<=M i
theorem Hw.start{d:List bC}{aK:List (Int×Unit)}(h:aK.length=d.length):Hw d aK aK 0 λ_=>False:=
 ⟨h,λ_ _=>awk _,λB hB i hi=>by have:=hB i hi;omega,λ_ e he=>he.elim,λ_ _ h=>h⟩
theorem Hw.weaken{d:List bC}{aK cur:List (Int×Unit)}{g g':Int}{P P':Nat×Nat×Nat->Prop}(h:Hw d aK cur g P)(hg:g<=g')(hP:∀e,P' e->P e):Hw d aK cur g' P':=
 ⟨h.len,h.up,λB hB i hi=>by have:=h.grow B hB i hi;omega,λhx e he=>h.fix hx e (hP e he),h.below⟩
theorem Hw.still{d:List bC}{aK cur:List (Int×Unit)}{g:Int}{P:Nat×Nat×Nat->Prop}(h:Hw d aK cur g P){i j m:Nat}(he:(i,j,m)∈dn d)(hle:lv cur j+m<=lv cur i):Hw d aK cur g λe=>P e\/e=(i,j,m):=by
 obtain⟨h1,h2,_⟩:=kU d _ he;refine⟨h.len,h.up,h.grow,λhx e hp=>?_,h.below⟩;rcases hp with hp|rfl
 .exact h.fix hx e hp
 .have a:=hx i h1;have b:=hx j h2;show lv aK j+m<=lv aK i;omega
theorem Hw.set{d:List bC}{aK cur:List (Int×Unit)}{g:Int}{P:Nat×Nat×Nat->Prop}(h:Hw d aK cur g P){i j m:Nat}(he:(i,j,m)∈dn d)(hlt:lv cur i<lv cur j+m):Hw d aK (cur.set i (lv cur j+m,())) (g+m) λe=>P e\/e=(i,j,m):=by
 obtain⟨h1,h2,_⟩:=kU d _ he;have h1:i<d.length:=h1;have h2:j<d.length:=h2;have hl:=h.len;have hs:=λk=>aip (l:=cur) (i:=i) abn (lv cur j+m) k;refine⟨adK,λk hk=>?_,λB hB k hk=>?_,λhx e hp=>?_,λM hM hb k hk=>?_⟩
 .rw[hs];have a:=h.up k hk;split
  .next e=>subst e;omega
  .exact a
 .rw[hs];have a:=h.grow B hB k hk;have b:=h.grow B hB j h2;split<;>omega
 .have:=hx i h1;rw[hs,if_pos rfl]at this;have:=h.up i h1;omega
 .rw[hs];split
  .next e=>subst e;have a:=h.below M hM hb j h2;have b:=hM _ he;have b:M j+m<=M k:=b;omega
  .exact h.below M hM hb k hk
theorem Hw.raised{d:List bC}{aK cur:List (Int×Unit)}{g:Int}{P:Nat×Nat×Nat->Prop}(h:Hw d aK cur g P)(hg:g<=5000)(hP:∀e∈dn d,P e)(h0:∀i,i<d.length->0<=lv aK i):raised d aK cur:=by refine⟨h.len,h.up,λB hB i hi=>by have:=h.grow B hB i hi;show lv cur i<=_;omega,λhx e he=>?_,h.below⟩;have a:=h.fix hx e (hP e he);obtain⟨h1,h2,_⟩:=kU d _ he;have b:=h0 _ h1;have c:=h0 _ h2;show(lv aK e.2.1).toNat+e.2.2<=(lv aK e.1).toNat;omega
theorem adq(d:List bC)(aK:List (Int×Unit))(hl:aK.length=d.length):∀(E:TJ),(∀e∈E,e∈dn d)->∃cur:List (Int×Unit),cur.length=d.length/\(∀i,i<d.length->lv aK i<=lv cur i/\(lv cur i=lv aK i\/∃e∈E,e.1=i/\lv cur i=lv aK e.2.1+e.2.2))/\∀e∈E,lv aK e.2.1+e.2.2<=lv cur e.1
 |[],_=>⟨aK,hl,λi hi=>⟨awk _,.inl rfl⟩,λe he=>by cases he⟩
 |e::E,hE=>by
  obtain⟨cur,h1,h2,h3⟩:=adq d aK hl E λx hx=>hE x (avy _ hx);obtain⟨g1,g2,_⟩:=kU d e (hE e avA);by_cases h:lv cur e.1<lv aK e.2.1+e.2.2
  .have hs:=λk=>aip (l:=cur) (i:=e.1) abn (lv aK e.2.1+e.2.2) k;refine⟨cur.set e.1 (lv aK e.2.1+e.2.2,()),adK,λi hi=>?_,λx hx=>?_⟩
   .rw[hs];have:=h2 i hi;split
    .next hi'=>exact⟨by rw[hi']at this ⊢;omega,.inr ⟨e,avA,hi'.symm,rfl⟩⟩
    .refine⟨this.1,this.2.imp_right λ⟨x,hx,hy⟩=>⟨x,avy _ hx,hy⟩⟩
   .rw[hs];rcases avF.1 hx with rfl|hx
    .rw[if_pos rfl];omega
    .have:=h3 x hx;split
     .next he=>rw[he]at this;omega
     .exact this
  .refine⟨cur,h1,λi hi=>?_,λx hx=>?_⟩
   .have:=h2 i hi;exact⟨this.1,this.2.imp_right λ⟨x,hx,hy⟩=>⟨x,avy _ hx,hy⟩⟩
   .rcases avF.1 hx with rfl|hx
    .omega
    .exact h3 x hx
theorem ajW(d:List bC)(aK:List (Int×Unit))(hl:aK.length=d.length)(h0:∀i,i<d.length->0<=lv aK i):∃cur,raised d aK cur:=by
 obtain⟨cur,h1,h2,h3⟩:=adq d aK hl (dn d) λ_ h=>h;refine⟨cur,h1,λi hi=>(h2 i hi).1,λB hB i hi=>?_,λhx e he=>?_,λM hM hb i hi=>?_⟩
 .show lv cur i<=_;rcases(h2 i hi).2 with h|⟨e,he,rfl,h⟩
  .rw[h];have:=hB i hi;show(aK.getD i (0,())).1<=_;omega
  .obtain⟨_,g2,g3⟩:=kU d e he;have:lv aK e.2.1<=B:=hB _ g2;omega
 .obtain⟨g1,g2,_⟩:=kU d e he;have a:=h3 e he;have b:=h0 _ g1;have c:=h0 _ g2;have x:lv cur e.1=lv aK e.1:=hx _ g1;show(lv aK e.2.1).toNat+e.2.2<=(lv aK e.1).toNat;omega
 .show lv cur i<=_;rcases(h2 i hi).2 with h|⟨e,he,rfl,h⟩
  .rw[h];exact hb i hi
  .obtain⟨_,g2,_⟩:=kU d e he;have a:lv aK e.2.1<=M e.2.1:=hb _ g2;have b:=hM e he;omega
theorem Fj{d:List bC}{aK:List (Int×Unit)}{more:Int}:∀(r:LS)(B:Int),wI d aK more r<=B↔0<=B/\∀x∈r,0<=aF d x.1->lv aK (aF d x.1).toNat+more<=B
 |[],B=>by simp[wI]
 |x::r,B=>by
  have ih:=Fj (d:=d) (aK:=aK) (more:=more) r B;rw[wI];have e:∀a b:Int,max a b<=B↔a<=B/\b<=B:=λa b=>abn;rw[e,ih];simp only[avF,forall_eq_or_imp];by_cases h:0<=aF d x.1
  .rw[avD h];show lv aK _+more<=B/\_↔_;constructor
   .exactλ⟨a,b,c⟩=>⟨b,λ_=>a,c⟩
   .exactλ⟨a,b,c⟩=>⟨b h,a,c⟩
  .rw[avH h];show(0:Int)<=B/\_↔_;constructor
   .exactλ⟨a,b,c⟩=>⟨b,λh'=>(h h').elim,c⟩
   .exactλ⟨a,b,c⟩=>⟨a,a,c⟩
def wW(l:List (Int×Unit)):Nat->Int
 |0=>0
 |n+1=>wW l n+lv l n
theorem aaE{a b:List (Int×Unit)}:∀n,(∀i,i<n->lv a i<=lv b i)->wW a n<=wW b n
 |0,_=>awk _
 |n+1,h=>Int.add_le_add (aaE n λi hi=>h i abn) (h n abn)
theorem aaD{a b:List (Int×Unit)}:∀n,(∀i,i<n->lv a i<=lv b i)->(∃i,i<n/\lv a i<lv b i)->wW a n<wW b n
 |0,_,⟨i,hi,_⟩=>abn
 |n+1,h,⟨i,hi,hl⟩=>by
  have h1:=aaE n λj hj=>h j (axI hj);show wW a n+lv a n<wW b n+lv b n;by_cases e:i=n
  .subst e;omega
  .have:=aaD n (λj hj=>h j (axI hj)) ⟨i,abn,hl⟩;have:=h n abn;omega
theorem OH{a:List (Int×Unit)}{b:Nat}:∀n:Nat,(∀i,i<n->lv a i<=b)->wW a n<=(n*b:Nat)
 |0,_=>by simp[wW]
 |n+1,h=>by have h1:=OH n λi hi=>h i (axI hi);have h2:=h n abn;show wW a n+lv a n<=((n+1)*b:Nat);rw[Nat.succ_mul];omega
theorem WC{a:List (Int×Unit)}:∀n:Nat,(∀i,i<n->0<=lv a i)->0<=wW a n
 |0,_=>awk _
 |n+1,h=>Int.add_nonneg (WC n λi hi=>h i abn) (h n abn)
theorem lY{d:List bC}:dP d=true↔ni d=true/\∃L,iU (dn d) L:=by unfold dP;simp
theorem acz{d:List bC}(h:ni d=true):d.length<=5:=by unfold ni at h;simp only[avo,avC]at h;omega
end Sp
namespace Sp
abbrev Ext(ι α:Type):=ι->α->Bool
structure Sys(ι α:Type) where
 T:ι->Ext ι α->α->Prop
 pos:ι->ι->Prop
 neg:ι->ι->Prop
 mono:∀i X Y,(∀j,pos i j->∀x,X j x=true->Y j x=true)->(∀j,neg i j->∀x,X j x=Y j x)->∀x,T i X x->T i Y x
def asu{ι α:Type}(S:Sys ι α)(N:ι->Prop)(aK:ι->Nat):Prop:=∀i j,N i->N j->(S.pos i j->aK j<=aK i)/\(S.neg i j->aK j<aK i)
structure Eval{ι α:Type}(S:Sys ι α)(N:ι->Prop)(aK:ι->Nat)(X:Ext ι α):Prop where
 fix:∀i,N i->∀x,X i x=true↔S.T i X x
 least:∀k(Y:Ext ι α),(∀i,¬(N i/\aK i=k)->∀x,Y i x=X i x)->(∀i,N i->aK i=k->∀x,S.T i Y x->Y i x=true)->∀i,N i->aK i=k->∀x,X i x=true->Y i x=true
open Classical in
theorem aub{ι α:Type}{P:ι->Prop}{A B:Ext ι α}:∃Y:Ext ι α,(∀i x,Y i x=true↔A i x=true/\(P i->B i x=true))/\∀i,¬P i->∀x,Y i x=A i x:=by have h:∀i x,decide (A i x=true/\(P i->B i x=true))=true↔A i x=true/\(P i->B i x=true):=λi x=>decide_eq_true_iff;refine⟨λi x=>decide (A i x=true/\(P i->B i x=true)),h,λi hi x=>?_⟩;rw[av3,h];exact⟨λh=>h.1,λh=>⟨h,λh'=>(hi h').elim⟩⟩
end Sp
namespace Sp
open Go
abbrev xQ:=Bytes×List (Int×Unit)×Unit
abbrev BX:=Ext Bytes Int
def Ij:List bg->Bytes->Ed
 |[],_=>(0,0,[],())
 |a::r,s=>bif a.1==s then(a.2.1,a.2.2.1,a.2.2.2.1,())else Ij r s
def Xu:List xQ->Bytes->List (Int×Unit)
 |[],_=>[]
 |x::r,s=>bif x.1==s then x.2.1 else Xu r s
def ahf(l:List (Int×Unit))(x:Int):Bool:=l.any λy=>y.1==x
def TL(r:List xQ):BX:=λs x=>ahf (Xu r s) x
def EP(n:ak)(f:aU)(X:BX):Bool:=
 bif n.1==2 then !((Ij f.2.2.2.2.1 n.2.2.2.1).1==0)else
 bif n.1==3 then decide (Ij f.2.2.2.2.1 n.2.2.2.1=(n.2.2.2.2.1,n.2.2.2.2.2.1,n.2.2.2.2.2.2.1,()))else
 bif n.1==4 then(Ij f.2.2.2.2.1 n.2.2.2.1).1==1&&decide ((Ij f.2.2.2.2.1 n.2.2.2.1).2.1<n.2.2.2.2.2.1)else
 bif n.1==8 then X n.2.2.2.1 f.1 else
 bif n.1==9 then !(f.2.2.2.1==0)&&X n.2.2.2.1 f.2.2.2.1 else true
def val(q:List ak)(f:aU)(X:BX)(a:Nat):Bool:=
 if(nodeAt q a).1=5 then(if h:(nodeAt q a).2.1.toNat<a then !val q f X (nodeAt q a).2.1.toNat else true)
 else if(nodeAt q a).1=6 then(if h:(nodeAt q a).2.1.toNat<a/\(nodeAt q a).2.2.1.toNat<a then val q f X (nodeAt q a).2.1.toNat&&val q f X (nodeAt q a).2.2.1.toNat else true)
 else if(nodeAt q a).1=7 then(if h:(nodeAt q a).2.1.toNat<a/\(nodeAt q a).2.2.1.toNat<a then val q f X (nodeAt q a).2.1.toNat||val q f X (nodeAt q a).2.2.1.toNat else true)
 else EP (nodeAt q a) f X
termination_by a
decreasing_by all_goals omega
theorem anF(q:List ak)(f:aU)(X:BX)(a:Nat):val q f X a=
 if(nodeAt q a).1=5 then(if h:(nodeAt q a).2.1.toNat<a then !val q f X (nodeAt q a).2.1.toNat else true)
 else if(nodeAt q a).1=6 then(if h:(nodeAt q a).2.1.toNat<a/\(nodeAt q a).2.2.1.toNat<a then val q f X (nodeAt q a).2.1.toNat&&val q f X (nodeAt q a).2.2.1.toNat else true)
 else if(nodeAt q a).1=7 then(if h:(nodeAt q a).2.1.toNat<a/\(nodeAt q a).2.2.1.toNat<a then val q f X (nodeAt q a).2.1.toNat||val q f X (nodeAt q a).2.2.1.toNat else true)
 else EP (nodeAt q a) f X:=by rw[val]
def MG(q:List ak)(f:aU)(X:BX):Bool:=ay q&&val q f X (q.length-1)
def sel(fs:List aU)(q:List ak)(X:BX):List (Int×Unit):=(fs.filter λf=>MG q f X).map λf=>(f.1,())
def sZ(q:List ak)(i:Nat):Bool:=((negated q).getD i (false,())).1
theorem jL{q:List ak}(h:ay q=true){i:Nat}(hi:i<q.length):dS (nodeAt q i) i=true/\((i:Int)<(q.length:Int)-1->gX q i=1):=by
 unfold ay at h;rw[avo]at h;have h1:kV q i=true:=by have:=h.1;unfold ji at this;exact avL.1 this i (awh.2 hi)
 unfold kV at h1;rw[avo]at h1;refine⟨h1.1,λhl=>?_⟩;have h2:=h1.2;rw[avD hl]at h2;simpa using h2
theorem gW{q:List ak}(h:ay q=true):1<=q.length/\q.length<=9:=by unfold ay at h;simp only[avo,avC]at h;omega
theorem Zv{n:ak}{a:Nat}(h:dS n a=true)(hn:n.1=5\/n.1=6\/n.1=7):0<=n.2.1/\n.2.1.toNat<a:=by unfold dS at h;rcases hn with e|e|e<;>simp[e]at h<;>omega
theorem Ku{n:ak}{a:Nat}(h:dS n a=true)(hn:n.1=6\/n.1=7):0<=n.2.2.1/\n.2.2.1.toNat<a:=by unfold dS at h;rcases hn with e|e<;>simp[e]at h<;>omega
theorem akJ{α:Type}(g:α->Nat):∀(l:List α),(l.map g).sum=1->∀i j,i<l.length->j<l.length->i≠j->∀d,1<=g (l.getD i d)->g (l.getD j d)=0
 |[],_,i,_,hi,_,_,_,_=>arA
 |x::r,h,i,j,hi,hj,hne,d,hg=>by
  rw[avK,awt]at h;have mem:∀(l:List α) k,k<l.length->g (l.getD k d)<=(l.map g).sum:=by
   intro l
   induction l with
   |nil=>intro k hk;simp at hk
   |cons y t ih=>
    intro k hk;rw[avK,awt];cases k with
    |zero=>exact Nat.le_add_right _ _
    |succ k=>exact avx (ih k (by simpa using hk)) (Nat.le_add_left _ _)
  cases i with
  |zero=>
   cases j with
   |zero=>exact(hne rfl).elim
   |succ j=>
    have h1:1<=g x:=hg;have:=mem r j ana;show g (r.getD j d)=0;omega
  |succ i=>
   have h1:1<=g (r.getD i d):=hg;have h2:=mem r i ail;cases j with
   |zero=>show g x=0;omega
   |succ j=>exact akJ g r abn i j ail ana abn d hg
theorem GU{q:List ak}{p:Nat}:∀(n:Nat)(out:List (Bool×Unit)),(∀i,i<n->((nodeAt q i).1=5\/iZ (nodeAt q i)=true->(nodeAt q i).2.1.toNat≠p)/\(iZ (nodeAt q i)=true->(nodeAt q i).2.2.1.toNat≠p))->
 (iI q n out).getD p (false,())=out.getD p (false,())
 |0,_,_=>rfl
 |n+1,out,h=>by
  have ih:=GU n (jW q n out) λi hi=>h i abn;show(iI q n (jW q n out)).getD p (false,())=_;rw[ih];have hs:∀(l:List (Bool×Unit)) k x,k≠p->(l.set k x).getD p (false,())=l.getD p (false,()):=λl k x hk=>by rw[avr,awq hk,← avr]
  obtain⟨h1,h2⟩:=h n abn;unfold jW;dsimp only;cases e5:((nodeAt q n).1==5)with
  |true=>exact hs _ _ _ (h1 (.inl (avS.1 e5)))
  |false=>
   cases e2:iZ (nodeAt q n)with
   |true=>exact(hs _ _ _ (h2 e2)).trans (hs _ _ _ (h1 (.inr e2)))
   |false=>rfl
theorem AQ(q:List ak):∀(n:Nat)(out:List (Bool×Unit)),(iI q n out).length=out.length
 |0,_=>rfl
 |n+1,out=>by show(iI q n (jW q n out)).length=_;rw[AQ q n];unfold jW;dsimp only;cases (nodeAt q n).1==5<;>cases iZ (nodeAt q n)<;>simp
theorem lJ{n:ak}:iZ n=true↔n.1=6\/n.1=7:=by unfold iZ;simp
theorem Uy(q:List ak):∀(k m:Nat)(out:List (Bool×Unit)),∃mid:List (Bool×Unit),mid.length=out.length/\iI q (m+k) out=iI q m mid
 |0,_,out=>⟨out,rfl,rfl⟩
 |k+1,m,out=>by
  obtain⟨mid,h1,h2⟩:=Uy q k m (jW q (m+k) out);have hl:(jW q (m+k) out).length=out.length:=by unfold jW;dsimp only;cases (nodeAt q (m+k)).1==5<;>cases iZ (nodeAt q (m+k))<;>simp
  exact⟨mid,h1.trans hl,h2⟩
theorem l9{q:List ak}(h:ay q=true){i:Nat}(hi:i<q.length):((nodeAt q i).1=5\/iZ (nodeAt q i)=true->0<=(nodeAt q i).2.1/\(nodeAt q i).2.1.toNat<i)/\(iZ (nodeAt q i)=true->0<=(nodeAt q i).2.2.1/\(nodeAt q i).2.2.1.toNat<i):=by
 have h1:=(jL h hi).1;refine⟨λh2=>?_,λh2=>Ku h1 (lJ.1 h2)⟩;rcases h2 with h2|h2
 .exact Zv h1 (.inl h2)
 .exact Zv h1 (.inr (lJ.1 h2))
theorem al6{q:List ak}(h:ay q=true){i j p:Nat}(hi:i<q.length)(hj:j<q.length)(hne:i≠j)(hp:p<i)(hr:1<=refsOf p (nodeAt q i)):refsOf p (nodeAt q j)=0:=
 akJ (refsOf p) q ((jL h abn).2 abn) i j hi hj hne _ hr
theorem ajZ{p:Nat}{n:ak}(h:refsOf p n=0)(h0:((n.1=5\/iZ n=true)->0<=n.2.1)/\(iZ n=true->0<=n.2.2.1)):(n.1=5\/iZ n=true->n.2.1.toNat≠p)/\(iZ n=true->n.2.2.1.toNat≠p):=by
 unfold refsOf at h;refine⟨λh1 h2=>?_,λh1 h2=>?_⟩
 .have h3:=h0.1 h1;have h4:((iZ n||n.1==5)&&n.2.1==(p:Int))=true:=by
   have:(iZ n||n.1==5)=true:=by rcases h1 with h1|h1<;>simp[h1]
   rw[this];simp;omega
  rw[h4]at h;simp at h
 .have h3:=h0.2 h1;have h4:(iZ n&&n.2.2.1==(p:Int))=true:=by rw[h1];simp;omega
  rw[h4]at h;simp at h
theorem Zw{p:Nat}{n:ak}(h:n.1=5\/iZ n=true)(h0:0<=n.2.1)(e:n.2.1.toNat=p):1<=refsOf p n:=by
 unfold refsOf;have h4:((iZ n||n.1==5)&&n.2.1==(p:Int))=true:=by
  have:(iZ n||n.1==5)=true:=by rcases h with h1|h1<;>simp[h1]
  rw[this];simp;omega
 rw[h4];simp
theorem ai1{p:Nat}{n:ak}(h:iZ n=true)(h0:0<=n.2.2.1)(e:n.2.2.1.toNat=p):1<=refsOf p n:=by
 unfold refsOf;have h4:(iZ n&&n.2.2.1==(p:Int))=true:=by rw[h];simp;omega
 rw[h4];simp
theorem TM{l:List (Bool×Unit)}{k p:Nat}{x:Bool×Unit}(hk:k<l.length):(l.set k x).getD p (false,())=if k=p then x else l.getD p (false,()):=by
 rw[avr,List.getElem?_set];by_cases h:k=p
 .subst h;simp[hk]
 .simp[h]
theorem TN{q:List ak}(h:ay q=true){i:Nat}(hi:i<q.length):
 ((nodeAt q i).1=5->sZ q (nodeAt q i).2.1.toNat=true)/\(iZ (nodeAt q i)=true->sZ q (nodeAt q i).2.1.toNat=sZ q i/\sZ q (nodeAt q i).2.2.1.toNat=sZ q i):=by
 have hn:negated q=iI q q.length (List.replicate q.length (false,())):=by unfold negated;rw[h];rfl
 obtain⟨mid,hm1,hm2⟩:=Uy q (q.length-(i+1)) (i+1) (List.replicate q.length (false,()));rw[show i+1+(q.length-(i+1))=q.length from abn,← hn]at hm2;have hml:mid.length=q.length:=by rw[hm1];simp
 have hm3:negated q=iI q i (jW q i mid):=hm2;obtain⟨k1,k2⟩:=l9 h hi;have keep:∀p,p<i->1<=refsOf p (nodeAt q i)->sZ q p=((jW q i mid).getD p (false,())).1:=λp hp hr=>by unfold sZ;rw[hm3,GU i];intro j hj;have hjl:j<q.length:=abn;obtain⟨g1,g2⟩:=l9 h hjl;exact ajZ (al6 h hi hjl abn hp hr) ⟨λz=>(g1 z).1,λz=>(g2 z).1⟩
 have self:sZ q i=(mid.getD i (false,())).1:=by unfold sZ;rw[hm2,GU (i+1)];intro j hj;obtain⟨g1,g2⟩:=l9 h (show j<q.length from abn);exact⟨λz=>by have:=(g1 z).2;omega,λz=>by have:=(g2 z).2;omega⟩
 refine⟨λh5=>?_,λh2=>?_⟩
 .obtain⟨a,b⟩:=k1 (.inl h5);rw[keep _ b (Zw (.inl h5) a rfl)];unfold jW;dsimp only;rw[avS.2 h5];show((mid.set _ (true,())).getD _ (false,())).1=true;rw[TM abn,if_pos rfl]
 .obtain⟨a,b⟩:=k1 (.inr h2);obtain⟨a',b'⟩:=k2 h2;have h5:((nodeAt q i).1==5)=false:=by rcases lJ.1 h2 with e|e<;>rw[e]<;>rfl
  rw[keep _ b (Zw (.inr h2) a rfl),keep _ b' (ai1 h2 a' rfl),self];unfold jW;dsimp only;rw[h5,h2];show(((mid.set _ ((mid.getD i (false,())).1,())).set _ ((mid.getD i (false,())).1,())).getD _ (false,())).1=_/\(((mid.set _ ((mid.getD i (false,())).1,())).set _ ((mid.getD i (false,())).1,())).getD _ (false,())).1=_;rw[TM (by rw[avZ];omega),TM abn,TM (by rw[avZ];omega),if_pos rfl,if_pos rfl];exact⟨by split<;>rfl,rfl⟩
theorem adr{q:List ak}(h:ay q=true):sZ q (q.length-1)=false:=by
 have hn:negated q=iI q q.length (List.replicate q.length (false,())):=by unfold negated;rw[h];rfl
 have hl:=gW h;unfold sZ;rw[hn,GU q.length]
 .rw[avr,axD];split<;>rfl
 .intro j hj;obtain⟨g1,g2⟩:=l9 h hj;exact⟨λz=>by have:=(g1 z).2;omega,λz=>by have:=(g2 z).2;omega⟩
theorem abh{q:List ak}(h:ay q=true){i:Nat}(hi:i<q.length)(hd:pF (nodeAt q i)=true):(nodeAt q i).2.2.2.1∈dV q (sZ q i):=by
 have hl:(negated q).length=q.length:=by unfold negated;rw[h];show(iI _ _ _).length=_;rw[AQ];simp
 unfold dV;rw[axe];refine⟨i,awh.2 abn,?_⟩;unfold sZ;rw[hd];simp
theorem aoQ{q:List ak}{f:aU}{X Y:BX}(h:ay q=true)(hp:∀s∈dV q false,∀x,X s x=true->Y s x=true)(hn:∀s∈dV q true,∀x,X s x=Y s x):
 ∀a,a<q.length->(sZ q a=false->val q f X a=true->val q f Y a=true)/\(sZ q a=true->val q f X a=val q f Y a):=by
 intro a
 induction a using Nat.strongRecOn with
 |_ a ih=>
  intro ha;obtain⟨k1,k2⟩:=l9 h ha;obtain⟨n1,n2⟩:=TN h ha;rw[anF q f X a,anF q f Y a];by_cases h5:(nodeAt q a).1=5
  .have hk:=k1 (.inl h5);have i1:=(ih _ hk.2 abn).2 (n1 h5);rw[if_pos h5,if_pos h5,dif_pos hk.2,dif_pos hk.2,i1];exact⟨λ_=>id,λ_=>rfl⟩
  rw[if_neg h5,if_neg h5];by_cases h6:(nodeAt q a).1=6
  .have h2:iZ (nodeAt q a)=true:=lJ.2 (.inl h6);have hk:=k1 (.inr h2);have hk':=k2 h2;have i1:=ih _ hk.2 abn;have i2:=ih _ hk'.2 abn;rw[(n2 h2).1]at i1;rw[(n2 h2).2]at i2;rw[if_pos h6,if_pos h6,dif_pos ⟨hk.2,hk'.2⟩,dif_pos ⟨hk.2,hk'.2⟩];refine⟨λhf hv=>?_,λht=>by rw[i1.2 ht,i2.2 ht]⟩;rw[avo]at hv ⊢;exact⟨i1.1 hf hv.1,i2.1 hf hv.2⟩
  rw[if_neg h6,if_neg h6];by_cases h7:(nodeAt q a).1=7
  .have h2:iZ (nodeAt q a)=true:=lJ.2 (.inr h7);have hk:=k1 (.inr h2);have hk':=k2 h2;have i1:=ih _ hk.2 abn;have i2:=ih _ hk'.2 abn;rw[(n2 h2).1]at i1;rw[(n2 h2).2]at i2;rw[if_pos h7,if_pos h7,dif_pos ⟨hk.2,hk'.2⟩,dif_pos ⟨hk.2,hk'.2⟩];refine⟨λhf hv=>?_,λht=>by rw[i1.2 ht,i2.2 ht]⟩;rw[awC]at hv ⊢;exact hv.imp (i1.1 hf) (i2.1 hf)
  rw[if_neg h7,if_neg h7];by_cases h8:(nodeAt q a).1=8
  .have hm:=abh h ha (by unfold pF;simp[h8]);unfold EP;simp only[h8];refine⟨λhf hv=>?_,λht=>?_⟩
   .rw[hf]at hm;exact hp _ hm _ hv
   .rw[ht]at hm;exact hn _ hm _
  by_cases h9:(nodeAt q a).1=9
  .have hm:=abh h ha (by unfold pF;simp[h9]);unfold EP;simp only[h9];refine⟨λhf hv=>?_,λht=>?_⟩
   .rw[hf]at hm;have hv:(!((f.2.2.2.1==0))&&X (nodeAt q a).2.2.2.1 f.2.2.2.1)=true:=hv;rw[avo]at hv;show(!((f.2.2.2.1==0))&&Y (nodeAt q a).2.2.2.1 f.2.2.2.1)=true;rw[avo];exact⟨hv.1,hp _ hm _ hv.2⟩
   .rw[ht]at hm;show(!((f.2.2.2.1==0))&&X (nodeAt q a).2.2.2.1 f.2.2.2.1)=(!((f.2.2.2.1==0))&&Y (nodeAt q a).2.2.2.1 f.2.2.2.1);rw[hn _ hm]
  .have:EP (nodeAt q a) f X=EP (nodeAt q a) f Y:=by unfold EP;rw[avp.2 h8,avp.2 h9];rfl
   rw[this];exact⟨λ_=>id,λ_=>rfl⟩
theorem ai2{q:List ak}{f:aU}{X Y:BX}(hp:∀s∈dV q false,∀x,X s x=true->Y s x=true)(hn:∀s∈dV q true,∀x,X s x=Y s x)(hm:MG q f X=true):MG q f Y=true:=by unfold MG at hm ⊢;rw[avo]at hm ⊢;have hl:=gW hm.1;exact⟨hm.1,(aoQ hm.1 hp hn _ abn).1 (adr hm.1) hm.2⟩
theorem akK{fs:List aU}{q:List ak}{X:BX}{x:Int}:(x,())∈sel fs q X↔∃f∈fs,f.1=x/\MG q f X=true:=by
 unfold sel;rw[awJ];constructor
 .rintro⟨f,hf,e⟩;rw[axX]at hf;exact⟨f,hf.1,congrArg Prod.fst e,hf.2⟩
 .rintro⟨f,hf,rfl,hm⟩;exact⟨f,axX.2 ⟨hf,hm⟩,rfl⟩
def al7(fs:List aU)(d:List bC):Sys Bytes Int where
 T:=λs X x=>∃i,i<d.length/\(dm d i).1=s/\(x,())∈sel fs (dm d i).2.1 X
 pos:=λs t=>∃i,i<d.length/\(dm d i).1=s/\t∈dV (dm d i).2.1 false
 neg:=λs t=>∃i,i<d.length/\(dm d i).1=s/\t∈dV (dm d i).2.1 true
 mono:=λs X Y hp hn x⟨i,hi,e,hx⟩=>⟨i,hi,e,by obtain⟨f,hf,e2,hm⟩:=akK.1 hx;exact akK.2 ⟨f,hf,e2,ai2 (λt ht=>hp t ⟨i,hi,e,ht⟩) (λt ht=>hn t ⟨i,hi,e,ht⟩) hm⟩⟩
end Sp
namespace Go.Fw
open Go
end Go.Fw
namespace Go.Fw
open Go
theorem fK{p:Prop}[Decidable p]{A B:Prop}(h:p)(a:A):cond (decide p) A B:=by rw[avD h];exact a
theorem fM{p:Prop}[Decidable p]{A B:Prop}(h:¬p)(b:B):cond (decide p) A B:=by rw[avH h];exact b
theorem kZ{B:((Int×Unit)×Unit->Prop)->((Int×Unit)×Unit->Nat)->(Int×Unit)×Unit->Prop}(len:Nat)(hlen:len<=9223372036854775807)(J:Nat->Prop)(h0:J 0)
 (hstep:∀I μ(n:Nat),n<len->J n->(J (n+1)->I ((IntKind.i64.wrap ((n:Int)+1),()),())/\μ ((IntKind.i64.wrap ((n:Int)+1),()),())<μ (((n:Int),()),()))->B I μ (((n:Int),()),()))
 (hend:∀I μ,J len->B I μ (((len:Int),()),())):∃I,∃μ,I (((0:Int),()),())/\∀y,I y->B I μ y:=by
 refine⟨λy=>∃n:Nat,y.1.1=n/\n<=len/\J n,λy=>((len:Int)-y.1.1).toNat,⟨0,rfl,avM _,h0⟩,?_⟩;rintro⟨⟨_,⟨⟩⟩,⟨⟩⟩ ⟨n,rfl,hn,hJ⟩;rcases avN n len with h|h
 .refine hstep _ _ n h hJ λhJ'=>?_;have e:IntKind.i64.wrap ((n:Int)+1)=((n+1:Nat):Int):=fD _ abn;rw[e];exact⟨⟨n+1,rfl,h,hJ'⟩,by show((len:Int)-(n+1:Nat)).toNat<((len:Int)-n).toNat;omega⟩
 .have:n=len:=abn;subst this;exact hend _ _ hJ
theorem gU{Y S:Type}(mk:Int->S->Y)(idx:Y->Int)(hidx:∀i s,idx (mk i s)=i){B:(Y->Prop)->(Y->Nat)->Y->Prop}(len:Nat)(hlen:len<=9223372036854775807)(J:Nat->S->Prop){s0:S}(h0:J 0 s0)
 (hstep:∀I μ(n:Nat)(s:S),n<len->J n s->(∀s',J (n+1) s'->I (mk (IntKind.i64.wrap ((n:Int)+1)) s')/\μ (mk (IntKind.i64.wrap ((n:Int)+1)) s')<μ (mk n s))->B I μ (mk n s))
 (hend:∀I μ s,J len s->B I μ (mk len s)):∃I,∃μ,I (mk 0 s0)/\∀y,I y->B I μ y:=by
 refine⟨λy=>∃(n:Nat)(s:S),y=mk n s/\n<=len/\J n s,λy=>((len:Int)-idx y).toNat,⟨0,s0,rfl,avM _,h0⟩,?_⟩;rintro _ ⟨n,s,rfl,hn,hJ⟩;rcases avN n len with h|h
 .refine hstep _ _ n s h hJ λs' hJ'=>?_;have e:IntKind.i64.wrap ((n:Int)+1)=((n+1:Nat):Int):=fD _ abn;rw[e];refine⟨⟨n+1,s',rfl,h,hJ'⟩,?_⟩;show((len:Int)-idx (mk (n+1:Nat) s')).toNat<((len:Int)-idx (mk n s)).toNat;rw[hidx,hidx];omega
 .have:n=len:=abn;subst this;exact hend _ _ s hJ
theorem Ar{len:Nat}{f:Nat->Bool}{n:Nat}(hn:n<len)(h:f n=false):Sp.ji len f=false:=by unfold Sp.ji;rw[List.all_eq_false];exact⟨n,awh.2 hn,by rw[h];simp⟩
theorem nC{len:Nat}{f:Nat->Bool}(h:∀i,i<len->f i=true):Sp.ji len f=true:=by unfold Sp.ji;rw[avL];exactλi hi=>h i (awh.1 hi)
theorem OX{len:Nat}{f:Nat->Bool}:Sp.ji len f=true↔∀i,i<len->f i=true:=by unfold Sp.ji;rw[avL];exact⟨λh i hi=>h i (awh.2 hi),λh i hi=>h i (awh.1 hi)⟩
theorem dY{n:Nat}{f:Nat->Bool}(h:∀i,i<n->f i=true)(hn:f n=true):∀i,i<n+1->f i=true:=λi hi=>by
 rcases avN i n with h'|h'
 .exact h i h'
 .have:i=n:=abn;rw[this];exact hn
theorem iY{b:Bool}(h:(!b)=true):b=false:=by cases b<;>first|rfl|cases h
theorem fG{b:Bool}(h:(!b)=false):b=true:=by cases b<;>first|rfl|cases h
theorem fB{p:Prop}[Decidable p](h:decide p=true):p:=awQ h
theorem fO{p:Prop}[Decidable p](h:decide p=false):¬p:=of_decide_eq_false h
theorem zh{n:Nat}(h:0<n)(hn:n<=9223372036854775807):IntKind.i64.wrap ((n:Int)-1)=((n-1:Nat):Int):=by rw[fD _ abn];omega
theorem Xv{α:Type}{d:α}{a b:List α}(hl:a.length=b.length)(h:∀i,i<a.length->a.getD i d=b.getD i d):a=b:=by refine axN hl λi h1 h2=>?_;have:=h i h1;rw[avr,avr,avv h1,avv h2]at this;simpa using this
theorem Ib{α β:Type}(e:α->α->Bool)(he:∀x y,e x y=false↔x=y)(d:α)(a b:List α)(t:β)(hlen:a.length<=9223372036854775807)(hl:a.length=b.length){K:Bool×Unit->Prop}(hF:a≠b->K (false,()))(hT:a=b->K (true,())):
 ∃(I:(Int×Unit)×Unit->Prop),∃(μ:(Int×Unit)×Unit->Nat),I (((0:Int),()),())/\∀(y:(Int×Unit)×Unit),I y->
  bif decide (y.fst.fst<(a.length:Int))then
   ((0:Int)<=y.fst.fst/\y.fst.fst<(a.length:Int))/\((0:Int)<=y.fst.fst/\y.fst.fst<(b.length:Int))/\
     (bif e (a.getD (Int.toNat y.fst.fst) d) (b.getD (Int.toNat y.fst.fst) d)then K (false,())
     else t=t/\I ((IntKind.i64.wrap (y.fst.fst+(1:Int)),()),())/\μ ((IntKind.i64.wrap (y.fst.fst+(1:Int)),()),())<μ y)
  else K (true,()):=by
 refine kZ a.length hlen (λn=>∀i,i<n->a.getD i d=b.getD i d) (λi hi=>abn) (λI μ n hn hJ next=>?_) λI μ hJ=>(by dsimp only;exact fM abn (hT (Xv hl hJ)));dsimp only;refine fK abn ⟨⟨abn,abn⟩,⟨abn,abn⟩,af (λh=>hF λh'=>?_) λh=>⟨rfl,next λi hi=>?_⟩⟩
 .subst h';have:=(he (a.getD n d) (a.getD n d)).2 rfl;have h:e (a.getD n d) (a.getD n d)=true:=h;rw[this]at h;cases h
 .rcases avN i n with h'|h'
  .exact hJ i h'
  .have:i=n:=abn;rw[this];exact(he _ _).1 h
theorem aif{α β:Type}(e:α->α->Bool)(he:∀x y,e x y=false↔x=y)(d:α)(a b:List α)(t:β)(hlen:a.length<=9223372036854775807)(hl:a.length=b.length){K:Bool×Unit->Prop}(hF:a≠b->K (false,()))(hT:a=b->K (true,())):
 ∃(I:(Int×Unit)×Unit->Prop),∃(μ:(Int×Unit)×Unit->Nat),I (((0:Int),()),())/\∀(y:(Int×Unit)×Unit),I y->
  bif decide (y.fst.fst<(a.length:Int))then
   ((0:Int)<=y.fst.fst/\y.fst.fst<(a.length:Int))/\((0:Int)<=y.fst.fst/\y.fst.fst<(b.length:Int))/\True/\
     (bif e (a.getD (Int.toNat y.fst.fst) d) (b.getD (Int.toNat y.fst.fst) d)then K (false,())
     else t=t/\I ((IntKind.i64.wrap (y.fst.fst+(1:Int)),()),())/\μ ((IntKind.i64.wrap (y.fst.fst+(1:Int)),()),())<μ y)
  else K (true,()):=by
 refine kZ a.length hlen (λn=>∀i,i<n->a.getD i d=b.getD i d) (λi hi=>abn) (λI μ n hn hJ next=>?_) λI μ hJ=>(by dsimp only;exact fM abn (hT (Xv hl hJ)));dsimp only;refine fK abn ⟨⟨abn,abn⟩,⟨abn,abn⟩,trivial,af (λh=>hF λh'=>?_) λh=>⟨rfl,next λi hi=>?_⟩⟩
 .subst h';have:=(he (a.getD n d) (a.getD n d)).2 rfl;have h:e (a.getD n d) (a.getD n d)=true:=h;rw[this]at h;cases h
 .rcases avN i n with h'|h'
  .exact hJ i h'
  .have:i=n:=abn;rw[this];exact(he _ _).1 h
end Go.Fw
namespace Sp
open Go Go.Fw
theorem Wn{name:Bytes}:∀(s:List dW)(n:Nat),n<s.length->(∀i,i<n->(s.getD i ([],0,())).1≠name)->(s.getD n ([],0,())).1=name->kindOf s name=(s.getD n ([],0,())).2.1
 |[],n,h,_,_=>amA
 |f::r,0,_,_,he=>by
  have he:f.1=name:=he;show(bif decide (f.1=name)then f.2.1 else kindOf r name)=f.2.1;rw[avD he];rfl
 |f::r,n+1,h,hne,he=>by have h0:f.1≠name:=hne 0 abn;show(bif decide (f.1=name)then f.2.1 else kindOf r name)=_;rw[avH h0];exact Wn r n acG (λi hi=>hne (i+1) abn) he
theorem OG{name:Bytes}:∀(s:List dW),(∀i,i<s.length->(s.getD i ([],0,())).1≠name)->kindOf s name=0
 |[],_=>rfl
 |f::r,hne=>by have h0:f.1≠name:=hne 0 acA;show(bif decide (f.1=name)then f.2.1 else kindOf r name)=_;rw[avH h0];exact OG r λi hi=>hne (i+1) adK
theorem Xw{id:Int}:∀(s:List aU)(k:Int)(n:Nat),n<s.length->(∀i,i<n->(fileAt s i).1≠id)->(fileAt s n).1=id->zC k s id=k+n
 |[],_,n,h,_,_=>amA
 |f::r,k,0,_,_,he=>by
  have he:f.1=id:=he;show(bif decide (f.1=id)then k else zC (k+1) r id)=_;rw[avD he];simp
 |f::r,k,n+1,h,hne,he=>by have h0:f.1≠id:=hne 0 abn;show(bif decide (f.1=id)then k else zC (k+1) r id)=_;rw[avH h0];show zC (k+1) r id=_;rw[Xw r (k+1) n acG (λi hi=>hne (i+1) abn) he];omega
theorem QD{id:Int}:∀(s:List aU)(k:Int),(∀i,i<s.length->(fileAt s i).1≠id)->zC k s id=-1
 |[],_,_=>rfl
 |f::r,k,hne=>by have h0:f.1≠id:=hne 0 acA;show(bif decide (f.1=id)then k else zC (k+1) r id)=_;rw[avH h0];exact QD r (k+1) λi hi=>hne (i+1) adK
theorem LK{id:Int}{s:List aU}{n:Nat}(h:n<s.length)(hne:∀i,i<n->(fileAt s i).1≠id)(he:(fileAt s n).1=id):place s id=n:=by unfold place;rw[Xw s 0 n h hne he];omega
theorem ach{id:Int}{s:List aU}(hne:∀i,i<s.length->(fileAt s i).1≠id):place s id=-1:=QD s 0 hne
theorem aj0(s:List aU)(id:Int):(place s id=-1/\∀i,i<s.length->(fileAt s i).1≠id)\/∃n,n<s.length/\place s id=n/\(fileAt s n).1=id/\∀i,i<n->(fileAt s i).1≠id:=by
 by_cases h:∃n,n<s.length/\(fileAt s n).1=id
 .obtain⟨n,h1,h2,h3⟩:=(least s.length (p:=λn=>(fileAt s n).1=id) h);exact .inr ⟨n,h1,LK h1 (λi hi=>h3 i hi) h2,h2,λi hi=>h3 i hi⟩
 .have hne:∀i,i<s.length->(fileAt s i).1≠id:=λi hi e=>h ⟨i,hi,e⟩;exact .inl ⟨ach hne,hne⟩
theorem Zo{s:List dW}{n:Nat}(h:n<s.length)(hn:jF s n=false):eG s=false:=by unfold eG;rw[Ar h hn];rfl
theorem al8{fs:List dW}{s:List bg}{n:Nat}(h:n<s.length)(hn:jK fs s n=false):kG fs s=false:=Ar h hn
theorem afL{fs:List dW}{f:aU}{n:Nat}(h:n<f.2.2.2.2.1.length)(hn:jK fs f.2.2.2.2.1 n=false):dH fs f=false:=by unfold dH;rw[al8 h hn];rfl
theorem ace{s:eX}{n:Nat}(h:n<s.2.1.length)(hn:lI s n=false):bW s=false:=by unfold bW;rw[Ar h hn];rfl
theorem nH{s:eX}{i:Nat}:lI s i=true↔dH s.1 (fileAt s.2.1 i)=true/\(fileAt s.2.1 i).1<s.2.2.1/\(0<i->(fileAt s.2.1 (i-1)).1<(fileAt s.2.1 i).1):=by
 unfold lI;rw[avo,avo,avC,and_assoc];refine aw6 λ_=>aw6 λ_=>?_;by_cases h:0<i
 .simp[h]
 .simp[h]
theorem oK{s:eX}:bW s=true↔(∀i,i<s.2.1.length->lI s i=true)/\eG s.1=true/\s.2.1.length<=12/\1<=s.2.2.1/\s.2.2.1<=61:=by
 unfold bW;rw[avo,avo,avo,avo,avC,avC,avC,OX];constructor
 .rintro⟨⟨⟨h1,h2⟩,h3⟩,h4,h5⟩;exact⟨h1,h2,abn,h4,h5⟩
 .rintro⟨h1,h2,h3,h4,h5⟩;exact⟨⟨⟨h1,h2⟩,abn⟩,h4,h5⟩
theorem anG{fs:List dW}{f:aU}(h:dH fs f=true):1<=f.1/\f.1<=60:=by unfold dH at h;simp only[avo,avC]at h;exact h.1.1.2
theorem O4{fs:List aU}{g:aU}{i:Nat}(h:i<fs.length):fileAt (fs++[g]) i=fileAt fs i:=by unfold fileAt;rw[avr,awe h,← avr]
theorem aj1{fs:List aU}{g:aU}:fileAt (fs++[g]) fs.length=g:=by unfold fileAt;rw[avr,av1 (avt _)];simp
theorem ai3{s:eX}{g:aU}(h:bW s=true)(hl:s.2.1.length<12)(hg:dH s.1 g=true)(hid:g.1=s.2.2.1):bW (s.1,s.2.1++[g],s.2.2.1+1,())=true:=by
 obtain⟨h1,h2,h3,h4,h5⟩:=oK.1 h;have hg1:=anG hg;refine oK.2 ⟨λi hi=>?_,h2,by show(s.2.1++[g]).length<=12;simp;omega,by show 1<=s.2.2.1+1;omega,by show s.2.2.1+1<=61;omega⟩;have hi:i<(s.2.1++[g]).length:=hi;rw[avn,avq,avu]at hi;refine nH.2 ?_;show dH s.1 (fileAt (s.2.1++[g]) i)=true/\(fileAt (s.2.1++[g]) i).1<s.2.2.1+1/\(0<i->(fileAt (s.2.1++[g]) (i-1)).1<(fileAt (s.2.1++[g]) i).1);rcases avN i s.2.1.length with hlt|hge
 .obtain⟨k1,k2,k3⟩:=nH.1 (h1 i hlt);rw[O4 hlt];refine⟨k1,abn,λh0=>?_⟩;rw[O4 abn];exact k3 h0
 .have e:i=s.2.1.length:=abn;subst e;rw[aj1];refine⟨hg,abn,λh0=>?_⟩;rw[O4 abn];have:=(nH.1 (h1 (s.2.1.length-1) abn)).2.1;omega
theorem nU(s:eX)(f:aU):(bV s f=(s,0,false)/\¬(bW s=true/\s.2.1.length<12/\dH s.1 (s.2.2.1,f.2)=true))\/
 (bW s=true/\s.2.1.length<12/\dH s.1 (s.2.2.1,f.2)=true/\bV s f=((s.1,s.2.1++[(s.2.2.1,f.2)],s.2.2.1+1,()),s.2.2.1,true)):=by
 by_cases h:bW s=true/\s.2.1.length<12/\dH s.1 (s.2.2.1,f.2)=true
 .right;refine⟨h.1,h.2.1,h.2.2,?_⟩;unfold bV;dsimp only;rw[h.1,h.2.2,avD abn];rfl
 .left;refine⟨?_,h⟩;have:(bW s&&decide ((s.2.1.length:Int)<12)&&dH s.1 (s.2.2.1,f.2))=false:=by
   cases hb:(bW s&&decide ((s.2.1.length:Int)<12)&&dH s.1 (s.2.2.1,f.2))with
   |false=>rfl
   |true=>simp only[avo,avC]at hb;exact(h ⟨hb.1.1,abn,hb.2⟩).elim
  unfold bV;dsimp only;rw[this];rfl
theorem aex{s:eX}(f:aU)(h:bW s=true):bW (bV s f).1=true:=by
 rcases nU s f with⟨e,_⟩|⟨h1,h2,h3,e⟩
 .rw[e];exact h
 .rw[e];exact ai3 h1 h2 h3 rfl
theorem agE{s:eX}{f:aU}(h:ng s)(hf:vZ f):ng (bV s f).1:=by
 rcases nU s f with⟨e,_⟩|⟨h1,h2,h3,e⟩
 .rw[e];exact h
 .rw[e];refine⟨h.1,by show(s.2.1++[(s.2.2.1,f.2)]).length<=1000;simp;omega,λg hg=>?_⟩;have hg:g∈s.2.1++[(s.2.2.1,f.2)]:=hg;rcases avR.1 hg with hg|hg
  .exact h.2.2 g hg
  .have:g=(s.2.2.1,f.2):=by simpa using hg
   subst this;exact hf
theorem uH(s:eX)(id:Int):(fC s id=(s,false)/\¬(bW s=true/\0<=place s.2.1 id))\/
 ∃n,n<s.2.1.length/\place s.2.1 id=n/\bW s=true/\fC s id=((s.1,s.2.1.eraseIdx n,s.2.2.1,()),true):=by
 rcases aj0 s.2.1 id with⟨h,_⟩|⟨n,hn,h,_,_⟩
 .left;refine⟨?_,λh'=>abn⟩;unfold fC;rw[h];simp
 .cases ho:bW s with
  |false=>
   left;refine⟨?_,λh'=>by cases h'.1⟩;unfold fC;rw[ho];rfl
  |true=>right;refine⟨n,hn,h,rfl,?_⟩;unfold fC;rw[ho,h,avH abn,avJ];rfl
theorem Xx{fs:List aU}{n i:Nat}:fileAt (fs.eraseIdx n) i=if i<n then fileAt fs i else fileAt fs (i+1):=by unfold fileAt;rw[avr,List.getElem?_eraseIdx];split<;>rw[avr]
theorem agV{s:eX}{n:Nat}(h:bW s=true)(hn:n<s.2.1.length):bW (s.1,s.2.1.eraseIdx n,s.2.2.1,())=true:=by
 obtain⟨h1,h2,h3,h4,h5⟩:=oK.1 h;have hlen:(s.2.1.eraseIdx n).length=s.2.1.length-1:=axQ hn;refine oK.2 ⟨λi hi=>?_,h2,by show(s.2.1.eraseIdx n).length<=12;omega,h4,h5⟩;have hi:i<(s.2.1.eraseIdx n).length:=hi;refine nH.2 ?_;show dH s.1 (fileAt (s.2.1.eraseIdx n) i)=true/\(fileAt (s.2.1.eraseIdx n) i).1<s.2.2.1/\(0<i->(fileAt (s.2.1.eraseIdx n) (i-1)).1<(fileAt (s.2.1.eraseIdx n) i).1);rw[Xx,Xx];rcases avN i n with hlt|hge
 .rw[if_pos hlt];obtain⟨k1,k2,k3⟩:=nH.1 (h1 i abn);refine⟨k1,k2,λh0=>?_⟩;rw[if_pos abn];exact k3 h0
 .rw[if_neg abn];obtain⟨k1,k2,k3⟩:=nH.1 (h1 (i+1) abn);refine⟨k1,k2,λh0=>?_⟩;have k3:=k3 abn;rw[ax1]at k3;split
  .have:=(nH.1 (h1 i abn)).2.2 h0;omega
  .rw[show i-1+1=i from abn];exact k3
theorem aey{s:eX}(id:Int)(h:bW s=true):bW (fC s id).1=true:=by
 rcases uH s id with⟨e,_⟩|⟨n,hn,_,ho,e⟩
 .rw[e];exact h
 .rw[e];exact agV ho hn
theorem agF{s:eX}(id:Int)(h:ng s):ng (fC s id).1:=by
 rcases uH s id with⟨e,_⟩|⟨n,hn,_,ho,e⟩
 .rw[e];exact h
 .rw[e];refine⟨h.1,?_,λg hg=>h.2.2 g (List.mem_of_mem_eraseIdx hg)⟩;show(s.2.1.eraseIdx n).length<=1000;have:=h.2.1;rw[axQ hn];omega
theorem al9{s:List aU}{f:aU}(h:f∈s):∃i,i<s.length/\fileAt s i=f:=by obtain⟨i,hi,rfl⟩:=awS h;refine⟨i,hi,?_⟩;unfold fileAt;rw[avr,avv hi];rfl
theorem ads{s:List aU}{i:Nat}(h:i<s.length):fileAt s i∈s:=getD_mem h
theorem anH{s:eX}(h:bW s=true):∀(j i:Nat),i<j->j<s.2.1.length->(fileAt s.2.1 i).1<(fileAt s.2.1 j).1
 |0,i,hi,_=>abn
 |j+1,i,hi,hj=>by
  have h1:=(nH.1 ((oK.1 h).1 (j+1) hj)).2.2 abn;rw[ax1]at h1;rcases avN i j with h2|h2
  .have:=anH h j i h2 abn;omega
  .have:i=j:=abn;rw[this];exact h1
theorem LQ{α:Type}{p:α->Bool}{d:α}:∀(l:List α)(n:Nat),n<=l.length->(∀i,i<n->p (l.getD i d)=true)->(n<l.length->p (l.getD n d)=false)->l.takeWhile p=l.take n/\l.dropWhile p=l.drop n
 |[],n,h,_,_=>acA
 |x::r,0,_,_,h=>by
  have h:p x=false:=h acA;constructor<;>simp[h]
 |x::r,n+1,hn,h1,h2=>by have h0:p x=true:=h1 0 abn;have:=LQ r n (by simpa using hn) (λi hi=>h1 (i+1) abn) λhlt=>h2 (by simpa using hlt);constructor<;>simp[h0,this.1,this.2]
end Sp
namespace Sp
open Go Go.Fw
theorem Zx:∀a:Bytes,Op.bytesLess a a=false
 |[]=>rfl
 |x::a=>by show(decide (x<x)||(x==x&&Op.bytesLess a a))=false;rw[Zx a,avH (UInt8.lt_irrefl x),awO];rfl
theorem anI{x y:UInt8}{a b:Bytes}:Op.bytesLess (x::a) (y::b)=true↔x.toNat<y.toNat\/(x=y/\Op.bytesLess a b=true):=by show(decide (x<y)||(x==y&&Op.bytesLess a b))=true↔_;rw[awC,avC,avo,avS,UInt8.lt_iff_toNat_lt]
theorem TP:∀a b c:Bytes,Op.bytesLess a b=true->Op.bytesLess b c=true->Op.bytesLess a c=true
 |_,[],_,h,_=>by cases h':(‹Bytes›:Bytes)<;>simp_all [Op.bytesLess]
 |_,_::_,[],_,h=>agk
 |[],_::_,_::_,_,_=>rfl
 |x::a,y::b,z::c,h1,h2=>by
  rw[anI]at h1 h2 ⊢;rcases h1 with h1|⟨rfl,h1⟩
  .rcases h2 with h2|⟨rfl,h2⟩
   .exact .inl abn
   .exact .inl h1
  .rcases h2 with h2|⟨rfl,h2⟩
   .exact .inl h2
   .exact .inr ⟨rfl,TP a b c h1 h2⟩
theorem aqk{a b:Bytes}(h:Op.bytesLess a b=true):a≠b:=λe=>by rw[e,Zx]at h;cases h
theorem WQ{s:List dW}:eG s=true↔(∀i,i<s.length->jF s i=true)/\s.length<=5:=by unfold eG;rw[avo,OX,avC];exact aw6 λ_=>abn
end Sp
namespace Sp
open Go
def nameOf(d:List bC)(i:Nat):Bytes:=(dm d i).1
def KH(d:List bC)(i:Nat):List ak:=(dm d i).2.1
def apB(r:List xQ)(i:Nat):xQ:=r.getD i ([],[],())
def TQ(r:List xQ)(i:Nat):List (Int×Unit):=(apB r i).2.1
def Nl(d:List bC)(aK:List (Int×Unit)):Prop:=
 aK.length=d.length/\(∀i,i<d.length->0<=lv aK i/\lv aK i<=d.length)/\(iU (dn d) λi=>(lv aK i).toNat)/\∀M,iU (dn d) M->∀i,i<d.length->lv aK i<=M i
theorem alP{d:List bC}(h:∃M,iU (dn d) M/\∀i,i<d.length->M i<d.length):∃s,Nl d s:=by
 have hE:=kU d;have hmin:∀i,∃m,(∃M,iU (dn d) M/\M i=m)/\∀M,iU (dn d) M->m<=M i:=λi=>by
  obtain⟨M0,h0,_⟩:=h;have:∀n,(∃M,iU (dn d) M/\M i=n)->∃m,(∃M,iU (dn d) M/\M i=m)/\∀M,iU (dn d) M->m<=M i:=by
   intro n
   induction n using Nat.strongRecOn with
   |_ n ih=>
    intro hn;by_cases hl:∃M,iU (dn d) M/\M i<n
    .obtain⟨M,h1,h2⟩:=hl;exact ih _ h2 ⟨M,h1,rfl⟩
    .exact⟨n,hn,λM hM=>ayF λhlt=>hl ⟨M,hM,hlt⟩⟩
  exact this (M0 i) ⟨M0,h0,rfl⟩
 obtain⟨L,hL⟩:=Classical.axiomOfChoice hmin;have hfix:iU (dn d) L:=λe he=>by obtain⟨⟨M,h1,h2⟩,_⟩:=hL e.1;have a:=(hL e.2.1).2 M h1;have b:=h1 e he;rw[← h2];omega
 have hlv:∀i,i<d.length->lv ((List.range d.length).map λi=>((L i:Int),())) i=L i:=λi hi=>by unfold lv;rw[avr,awn,List.getElem?_range hi];rfl
 refine⟨(List.range d.length).map λi=>((L i:Int),()),acA,λi hi=>?_,λe he=>?_,λM hM i hi=>?_⟩
 .rw[hlv i hi];obtain⟨M,h1,h2⟩:=h;have:=(hL i).2 M h1;have:=h2 i hi;omega
 .obtain⟨h1,h2,_⟩:=hE e he;have:=hfix e he;dsimp only;rw[hlv _ h1,hlv _ h2];omega
 .rw[hlv i hi];have:=(hL i).2 M hM;omega
def aoR(d:List bC)(aK:List (Int×Unit))(s:Bytes):Nat:=(lv aK (aF d s).toNat).toNat
def due(d:List bC)(nm:Bytes->Bool)(s:Bytes):Prop:=nm s=true/\∃i,i<d.length/\nameOf d i=s
def af2(d:List bC)(out:List xQ):Prop:=out.length=d.length/\∀i,i<d.length->(apB out i).1=nameOf d i
structure apC(fs:List aU)(d:List bC)(r:List xQ)(nm:Bytes->Bool)(out:List xQ):Prop where
 order:af2 d out
 kept:∀i,i<d.length->nm (nameOf d i)=false->TQ out i=Xu r (nameOf d i)
 fix:∀i,i<d.length->nm (nameOf d i)=true->TQ out i=sel fs (KH d i) (TL out)
 aK:∃aK,Nl d aK/\Eval (al7 fs d) (due d nm) (aoR d aK) (TL out)
def X8{ι α:Type}(S:Sys ι α)(N:ι->Prop)(aK:ι->Nat)(k:Nat)(X:Ext ι α):Prop:=
 ∀Y:Ext ι α,(∀i,¬(N i/\aK i=k)->∀x,Y i x=X i x)->(∀i,N i->aK i=k->∀x,S.T i Y x->Y i x=true)->∀i,N i->aK i=k->∀x,X i x=true->Y i x=true
open Classical in
theorem aql{ι α:Type}{S:Sys ι α}{N:ι->Prop}{aK:ι->Nat}(hs:asu S N aK){m:Nat}{X X':Ext ι α}(h:∀i,¬(N i/\m<aK i)->∀x,X i x=X' i x)(hX:X8 S N aK m X):X8 S N aK m X':=by
 intro Y hY hp i hi hl x hx;have key:=hX (λi x=>if N i/\m<aK i then X i x else Y i x) (λj hj y=>?_) (λj hj hlj y hy=>?_) i hi hl x (by rw[h i abn];exact hx)
 .rw[if_neg abn]at key;exact key
 .by_cases hc:N j/\m<aK j
  .rw[if_pos hc]
  .rw[if_neg hc,hY j hj,h j hc]
 .rw[if_neg abn];have same:∀t,(S.pos j t\/S.neg j t)->¬(N t/\m<aK t):=λt ht hc=>by
   rcases ht with ht|ht
   .have:=(hs j t hj hc.1).1 ht;omega
   .have:=(hs j t hj hc.1).2 ht;omega
  refine hp j hj hlj y (S.mono j _ Y (λt ht z hz=>?_) (λt ht z=>?_) y hy)
  .rw[if_neg (same t (.inl ht))]at hz;exact hz
  .rw[if_neg (same t (.inr ht))]
def canon(fs:List aU)(l:List (Int×Unit)):Prop:=l=(fs.filter λf=>ahf l f.1).map λf=>(f.1,())
structure auc(fs:List aU)(d:List bC)(r:List xQ)(nm:Bytes->Bool)(aK:List (Int×Unit))(k:Nat)(out:List xQ):Prop where
 order:af2 d out
 kept:∀i,i<d.length->nm (nameOf d i)=false->TQ out i=Xu r (nameOf d i)
 later:∀i,i<d.length->nm (nameOf d i)=true->(k:Int)<lv aK i->TQ out i=[]
 done:∀i,i<d.length->nm (nameOf d i)=true->lv aK i<k->TQ out i=sel fs (KH d i) (TL out)
 auH:∀m,m<k->X8 (al7 fs d) (due d nm) (aoR d aK) m (TL out)
 au5:∀i,i<d.length->nm (nameOf d i)=true->lv aK i=k->∀x,ahf (TQ out i) x=true->(x,())∈sel fs (KH d i) (TL out)
 least:X8 (al7 fs d) (due d nm) (aoR d aK) k (TL out)
 canon:∀i,i<d.length->nm (nameOf d i)=true->canon fs (TQ out i)
def room(n:Nat)(out:List xQ):Nat:=(out.map λx=>n-x.2.1.length).sum
end Sp
namespace Sp
open Go
abbrev Ik:=List dW×List aU×Int×List bC×List xQ×Unit
instance:DecidableEq (List (Int×Unit)):=inferInstance
instance:DecidableEq xQ:=inferInstance
instance:DecidableEq (List xQ):=inferInstance
instance:DecidableEq (List xQ×Unit):=inferInstance
instance:DecidableEq (List bC×List xQ×Unit):=inferInstance
instance:DecidableEq (Int×List bC×List xQ×Unit):=inferInstance
instance:DecidableEq (List aU×Int×List bC×List xQ×Unit):=inferInstance
instance au6:DecidableEq Ik:=(inferInstance:DecidableEq (List dW×List aU×Int×List bC×List xQ×Unit))
def Jh(c:Ik):eX:=(c.1,c.2.1,c.2.2.1,())
def Kw(c:Ik):List bC:=c.2.2.2.1
def atW(c:Ik):List xQ:=c.2.2.2.2.1
open Classical in
noncomputable def apD (c:Ik):Bool:=dP (Kw c)&&bW (Jh c)&&decide (apC c.2.1 (Kw c) [] (λ_=>true) (atW c))
def aoS(f g:aU):List Bytes:=((f.2.2.2.2.1++g.2.2.2.2.1).map λa=>a.1).filter λs=>!decide (Ij f.2.2.2.2.1 s=Ij g.2.2.2.2.1 s)
def aqm(q:List ak):List Bytes:=(q.filter λn=>n.1==2||(n.1==3||n.1==4)).map λn=>n.2.2.2.1
def ari(q:List ak):List Bytes:=(q.filter pF).map λn=>n.2.2.2.1
def linked(q:List ak):Bool:=q.any λn=>n.1==9
inductive Reach(d:List bC)(P:Bytes->Prop):Bytes->Prop where
 |base {s}:P s->Reach d P s
 |step {s i}:Reach d P s->i<d.length->s∈ari (KH d i)->Reach d P (nameOf d i)
def aoT(d:List bC)(f g:aU)(s:Bytes):Prop:=
 ∃i,i<d.length/\nameOf d i=s/\(f.1≠g.1\/(∃t,t∈aqm (KH d i)/\t∈aoS f g)\/(linked (KH d i)=true/\f.2.2.2.1≠g.2.2.2.1))
def Aff(d:List bC)(f g:aU):Bytes->Prop:=Reach d (aoT d f g)
open Classical in
noncomputable def au7 (d:List bC) (f g:aU) (s:Bytes):Bool:=decide (Aff d f g s)
end Sp
namespace Sp
open Go
end Sp
namespace Sp
open Go
def atX(as:List bg):Prop:=as.Pairwise λx y=>Op.bytesLess x.1 y.1=true
theorem abj{α:Type}{R:α->α->Prop}(ht:∀a b c,R a b->R b c->R a c)(d:α):∀(l:List α),(∀i,i+1<l.length->R (l.getD i d) (l.getD (i+1) d))->l.Pairwise R
 |[],_=>List.Pairwise.nil
 |[x],_=>List.pairwise_singleton _ _
 |x::y::r,h=>by
  have ih:=abj ht d (y::r) λi hi=>h (i+1) ail;have h0:R x y:=h 0 acA;refine axc.2 ⟨λz hz=>?_,ih⟩;rcases avF.1 hz with rfl|hz
  .exact h0
  .exact ht _ _ _ h0 ((axc.1 ih).1 z hz)
theorem Zy{fs:List dW}{as:List bg}:kG fs as=true↔(∀a∈as,jb fs a.1 a.2.1 a.2.2.1 a.2.2.2.1=true)/\atX as:=by
 have at_:∀i(hi:i<as.length),bU as i=as[i]:=λi hi=>by unfold bU;rw[avr,avv hi];rfl
 unfold kG;rw[show(ji as.length (jK fs as)=true)↔∀i,i<as.length->jK fs as i=true from by unfold ji;rw[avL];exact⟨λh i hi=>h i (awh.2 hi),λh i hi=>h i (awh.1 hi)⟩];have one:∀i,jK fs as i=true↔jb fs (bU as i).1 (bU as i).2.1 (bU as i).2.2.1 (bU as i).2.2.2.1=true/\(0<i->Op.bytesLess (bU as (i-1)).1 (bU as i).1=true):=λi=>by
  unfold jK;rw[avo];refine aw6 λ_=>?_;by_cases h0:0<i
  .rw[avD h0];simp[h0]
  .rw[avH h0];simp[h0]
 constructor
 .intro h;refine⟨λa ha=>?_,?_⟩
  .obtain⟨i,hi,rfl⟩:=awS ha;have:=((one i).1 (h i hi)).1;rw[at_ i hi]at this;exact this
  .refine abj (R:=λx y:bg=>Op.bytesLess x.1 y.1=true) (λa b c h1 h2=>TP _ _ _ h1 h2) ([],0,0,[],()) as λi hi=>?_;exact((one (i+1)).1 (h (i+1) hi)).2 abn
 .rintro⟨h1,h2⟩ i hi;refine(one i).2 ⟨?_,λh0=>?_⟩
  .rw[at_ i hi];exact h1 _ (awV hi)
  .rw[at_ i hi,at_ (i-1) abn];exact axx.1 h2 (i-1) i abn hi abn
theorem ai4{α:Type}[BEq α][LawfulBEq α]:∀(a b:List α),a.Nodup->(∀x∈a,x∈b)->a.length<=b.length
 |[],_,_,_=>avM _
 |x::r,b,hn,h=>by
  rw[List.nodup_cons]at hn;have hx:=h x avA;have ih:=ai4 r (b.erase x) hn.2 λy hy=>by
   have hne:y≠x:=λe=>by subst e;exact hn.1 hy
   rw[List.mem_erase_of_ne hne];exact h y (avy _ hy)
  rw[List.length_erase_of_mem hx]at ih;have:0<b.length:=List.length_pos_of_mem hx;rw[avq];omega
theorem TR:∀{fs:List dW}{s:Bytes},kindOf fs s≠0->s∈fs.map λf=>f.1
 |[],_,h=>(h rfl).elim
 |f::r,s,h=>by
  rw[kindOf]at h;by_cases e:f.1=s
  .rw[avK,e];exact avA
  .rw[avH e]at h;rw[avK];exact avy _ (TR h)
theorem aiD{fs:List dW}{as:List bg}(h:kG fs as=true):as.length<=fs.length:=by
 obtain⟨h1,h2⟩:=Zy.1 h;have:=ai4 (as.map λa=>a.1) (fs.map λf=>f.1) ?_ λs hs=>?_
 .rw[avI,avI]at this;exact this
 .unfold List.Nodup;rw[ayw];exact h2.imp λ{a b} hab=>aqk hab
 .obtain⟨a,ha,rfl⟩:=awJ.1 hs;have hm:=h1 a ha;unfold jb at hm;simp only[avo,avC,aw5,av7]at hm;exact TR (by rw[← hm.2];exact hm.1.2)
end Sp
namespace Sp
open Go
def named(f:aU)(w:Bytes):aU:=(f.1,f.2.1,f.2.2.1,f.2.2.2.1,jV f.2.2.2.2.1 [110] 2 0 w,())
def aoU(c:Ik)(u id:Int):Bool:=(TG (Jh c) id).2&&aoP (TG (Jh c) id).1 u
end Sp
namespace Sp
open Go
def l7(b:UInt8):Bool:=decide (32<=b.toNat)&&decide (b.toNat<=126)
def Vo(s:Bytes):Bool:=s.all λb=>decide (b.toNat<128)
def wordsOf(s:Bytes):LS:=(Lib.fields s).map (·,())
def jA(s:Bytes):Bool:=decide ((s.length:Int)<=600)&&s.all l7&&decide (((Lib.fields s).length:Int)<=24)
def gG(s:Bytes):LS:=bif jA s then wordsOf s else[]
def jU(s:Bytes):Int:=s.foldl (λn b=>10*n+((b.toNat:Int)-48)) 0
def bf(s:Bytes):Bool:=eu (jU s)&&(Lib.itoa (jU s)==s)
def parseNum(s:Bytes):Int:=bif bf s then jU s else 0
def wordAt(w:LS)(i:Int):Bytes:=bif decide (i>=(w.length:Int))then[]else(w.getD i.toNat ([],())).1
def gy(w:LS):Bytes:=Lib.join (w.map (·.1)) [32]
def numAt(w:LS)(i:Int):Int:=parseNum (wordAt w i)
def ahg(w:LS):Int×Int×Bytes×Int:=
 bif wordAt w 0==[99,111,109,109,105,116]then(1,numAt w 1,[],0)else
 bif wordAt w 0==[99,114,97,115,104]then(2,numAt w 1,[],numAt w 2)else
 bif wordAt w 0==[119,97,116,99,104]then(3,numAt w 1,wordAt w 2,0)else
 bif wordAt w 0==[112,105,110]then(4,0,[],numAt w 1)else
 bif wordAt w 0==[117,110,112,105,110]then(5,0,[],numAt w 1)else
 bif wordAt w 0==[99,111,108,108,101,99,116]then(6,0,[],0)else
 bif wordAt w 0==[97,100,100]then(7,numAt w 1,wordAt w 2,numAt w 3)else
 bif wordAt w 0==[114,101,109,111,118,101]then(8,numAt w 1,wordAt w 2,numAt w 3)else(0,0,[],0)
def aqn(x:Int×Int×Bytes×Int):Bytes:=TF x.1 x.2.1 0 x.2.2.1 x.2.2.2
end Sp
namespace Sp
open Go
theorem aoV(u:Nat):Lib.itoa (u:Int)=Lib.decDigits u:=by unfold Lib.itoa;rw[if_neg abn];simp
theorem ED(s:Bytes)(d:UInt8):jU (s++[d])=10*jU s+((d.toNat:Int)-48):=by simp[jU,List.foldl_append]
theorem byte_of(d:Nat)(h:d<10):(UInt8.ofNat (48+d)).toNat=48+d:=by rw[UInt8.toNat_ofNat'];omega
theorem QE(s:List UInt8):∀(acc:Nat)(n:Nat),Lib.decFrom acc s=some n->∀d,d<10->Lib.decFrom acc (s++[UInt8.ofNat (48+d)])=some (n*10+d):=by
 intro acc n h d hd
 induction s generalizing acc with
 |nil=>
  simp only[Lib.decFrom,Option.some.injEq]at h;subst h;have:∀d:Fin 10,Lib.digitVal (UInt8.ofNat (48+d.val))=some d.val:=abA;have h2:=this ⟨d,hd⟩;simp only[awo,Lib.decFrom];rw[h2]
 |cons a r ih=>
  simp only[awD,Lib.decFrom]at h ⊢;cases hv:Lib.digitVal a with
  |none=>rw[hv]at h;simp at h
  |some x=>rw[hv]at h;simp only at h ⊢;exact ih _ h
theorem Jw:∀(k u:Nat),u<10 ^ (k+1)->jU (Lib.decDigits u)=u/\Lib.decFrom 0 (Lib.decDigits u)=some u/\(∀b∈Lib.decDigits u,48<=b.toNat/\b.toNat<=57)/\Lib.decDigits u≠[]/\(Lib.decDigits u).length<=k+1
 |0,u,h=>by
  have h:u<10:=acG;rw[Lib.decDigits_one h];have hb:=byte_of u h;have:=QE [] 0 0 rfl u h;refine⟨?_,?_,λb hm=>?_,ayc _ _,avt _⟩
  .have:=ED [] (UInt8.ofNat (48+u));rw[awo]at this;rw[this,hb];show 10*0+_=_;omega
  .rw[awo,axz,avV]at this;exact this
  .rw[avP]at hm;subst hm;omega
 |k+1,u,h=>by
  by_cases h1:u<10
  .have:=Jw 0 u aqv;exact⟨this.1,this.2.1,this.2.2.1,this.2.2.2.1,abn⟩
  .have hd:u / 10<10 ^ (k+1):=by rw[Nat.pow_succ]at h;omega
   obtain⟨i1,i2,i3,i4,i5⟩:=Jw k (u / 10) hd;have e:Lib.decDigits u=Lib.decDigits (u / 10)++[UInt8.ofNat (48+u%10)]:=by
    conv=>lhs;rw[Lib.decDigits,dif_neg h1]
   have hm:u%10<10:=ayi _ abA;have hb:=byte_of (u%10) hm;rw[e];refine⟨by rw[ED,i1,hb];omega,?_,λb hb2=>?_,acA,adK⟩
   .rw[QE _ _ _ i2 _ hm];congr 1;omega
   .rcases avR.1 hb2 with h2|h2
    .exact i3 b h2
    .rw[avP]at h2;subst h2;omega
theorem ig{n:Int}:eu n=true↔0<=n/\n<=1000000000:=by unfold eu;rw[avo,avC,avC]
theorem iC{n:Int}(h:eu n=true):jU (Lib.itoa n)=n/\Lib.atoi (Lib.itoa n)=some n/\(∀b∈Lib.itoa n,48<=b.toNat/\b.toNat<=57)/\Lib.itoa n≠[]/\(Lib.itoa n).length<=10:=by
 obtain⟨h0,h1⟩:=ig.1 h;obtain⟨u,rfl⟩:=Int.eq_ofNat_of_zero_le h0;have hu:u<10 ^ (9+1):=abn;rw[aoV];obtain⟨i1,i2,i3,i4,i5⟩:=Jw 9 u hu;refine⟨i1,?_,i3,i4,i5⟩;cases hd:Lib.decDigits u with
 |nil=>exact absurd hd i4
 |cons b r=>
  have hb:=i3 b (by rw[hd];simp);rw[hd]at i2;have n45:(b==45)=false:=by rw[avp];intro e;subst e;revert hb;decide
  have n43:(b==43)=false:=by rw[avp];intro e;subst e;revert hb;decide
  simp only[Lib.atoi,n45,n43,Lib.decNat,awZ,axK,List.isEmpty_cons,i2,awr]
theorem Ea{s:Bytes}:bf s=true↔eu (jU s)=true/\Lib.itoa (jU s)=s:=by unfold bf;rw[avo,avS]
theorem RD{s:Bytes}{n:Int}(h:eu n=true)(e:Lib.itoa n=s):bf s=true/\parseNum s=n:=by
 have hv:jU s=n:=by rw[← e];exact(iC h).1
 have:bf s=true:=Ea.2 ⟨by rw[hv];exact h,by rw[hv];exact e⟩;exact⟨this,by unfold parseNum;rw[this];exact hv⟩
theorem pG{n:Int}(h:eu n=true):bf (Lib.itoa n)=true/\parseNum (Lib.itoa n)=n:=RD h rfl
theorem jH{s:Bytes}(h:bf s=true):Lib.itoa (parseNum s)=s/\eu (parseNum s)=true:=by
 have e:parseNum s=jU s:=by unfold parseNum;rw[h];rfl
 rw[e];exact⟨(Ea.1 h).2,(Ea.1 h).1⟩
theorem Ap(s:Bytes):eu (parseNum s)=true:=by
 cases h:bf s with
 |true=>exact(jH h).2
 |false=>unfold parseNum;rw[h];rfl
theorem AP{s:Bytes}(h:bf s=false):parseNum s=0:=by unfold parseNum;rw[h];rfl
theorem agW{s:Bytes}(h:bf s=true):s.length<=10:=by
 have:=(iC (jH h).2).2.2.2.2
 rwa [(jH h).1]at this
theorem V9{s:Bytes}(h:10<s.length):bf s=false:=by
 cases hp:bf s with
 |false=>rfl
 |true=>have:=agW hp;omega
theorem QF{s:Bytes}(h:bf s=true):∀b∈s,48<=b.toNat/\b.toNat<=57:=by
 have:=(iC (jH h).2).2.2.1
 rwa [(jH h).1]at this
end Sp
namespace Sp
open Go
def TS(x:Bytes):Prop:=x≠[]/\∀b∈x,Lib.isSp b=false
theorem Jy:∀(x cur l:Bytes),(∀b∈x,Lib.isSp b=false)->Lib.fieldsGo cur (x++l)=Lib.fieldsGo (cur++x) l
 |[],cur,l,_=>by rw[avU,awo]
 |b::x,cur,l,h=>by rw[awD,Lib.fieldsGo_more _ _ _ (h b avA),Jy x _ l (λc hc=>h c (avy _ hc)),avE];rfl
theorem Uz:∀(r:List Bytes)(x:Bytes),x≠[]->(∀y∈r,TS y)->Lib.fieldsGo x (Lib.joinTail [32] r)=x::r
 |[],x,hx,_=>by
  cases x with
  |nil=>exact absurd rfl hx
  |cons _ _=>simp[Lib.joinTail,Lib.fieldsGo]
 |y::r,x,hx,h=>by
  have hy:=h y avA;have e:Lib.joinTail [32] (y::r)=32::(y++Lib.joinTail [32] r):=by simp[Lib.joinTail]
  rw[e,Lib.fieldsGo_end x 32 _ abA hx,Jy y [] _ hy.2,awo,Uz r y hy.1 λz hz=>h z (avy _ hz)]
theorem Zz:∀ws:List Bytes,(∀x∈ws,TS x)->Lib.fields (Lib.join ws [32])=ws
 |[],_=>rfl
 |x::r,h=>by have hx:=h x avA;unfold Lib.fields;rw[Lib.join_cons,Jy x [] _ hx.2,awo,Uz r x hx.1 λz hz=>h z (avy _ hz)]
theorem map_unit:∀w:LS,(w.map (·.1)).map (·,())=w
 |[]=>rfl
 |(_,())::r=>by rw[avK,avK,map_unit r]
theorem ai5(ws:List Bytes)(h:∀x∈ws,TS x):wordsOf (Lib.join ws [32])=ws.map (·,()):=by unfold wordsOf;rw[Zz ws h]
theorem adt{n:Int}(h:eu n=true):TS (Lib.itoa n):=by obtain⟨_,_,h3,h4,_⟩:=iC h;refine⟨h4,λb hb=>?_⟩;have:=h3 b hb;unfold Lib.isSp;have ne:∀c:UInt8,c.toNat<48->(b==c)=false:=λc hc=>arz;rw[ne 9 abA,ne 10 abA,ne 11 abA,ne 12 abA,ne 13 abA,ne 32 abA];rfl
theorem aj2{s:Bytes}(h:aW s=true):TS s:=by unfold aW lower at h;rw[avo,avo,avL,avC,avC]at h;refine⟨λe=>by subst e;simp at h,λb hb=>?_⟩;have:=h.1.1 b hb;rw[avo,avC,avC]at this;unfold Lib.isSp;have ne:∀c:UInt8,c.toNat<97->(b==c)=false:=λc hc=>arz;rw[ne 9 abA,ne 10 abA,ne 11 abA,ne 12 abA,ne 13 abA,ne 32 abA];rfl
def ai6:Bytes:=[99,111,109,109,105,116]
def akL:Bytes:=[99,114,97,115,104]
def akM:Bytes:=[119,97,116,99,104]
def apE:Bytes:=[112,105,110]
def akN:Bytes:=[117,110,112,105,110]
def af4:Bytes:=[99,111,108,108,101,99,116]
def apF:Bytes:=[97,100,100]
def ai7:Bytes:=[114,101,109,111,118,101]
theorem SY(x y:Bytes):Lib.join [x,y] [32]=x++32::y:=by rw[Lib.join_cons];simp[Lib.joinTail]
theorem acW(x y z:Bytes):Lib.join [x,y,z] [32]=x++32::(y++32::z):=by rw[Lib.join_cons];simp[Lib.joinTail]
end Sp
namespace Sp
open Go
theorem aoW(w:LS):ahg w=
 (bif wordAt w 0==ai6 then(1,numAt w 1,[],0)else bif wordAt w 0==akL then(2,numAt w 1,[],numAt w 2)else bif wordAt w 0==akM then(3,numAt w 1,wordAt w 2,0)else
   bif wordAt w 0==apE then(4,0,[],numAt w 1)else bif wordAt w 0==akN then(5,0,[],numAt w 1)else bif wordAt w 0==af4 then(6,0,[],0)else
   bif wordAt w 0==apF then(7,numAt w 1,wordAt w 2,numAt w 3)else bif wordAt w 0==ai7 then(8,numAt w 1,wordAt w 2,numAt w 3)else(0,0,[],0)):=rfl
theorem Qo(w:LS)(i:Int)(h:wordAt w i=Lib.itoa (numAt w i)):bf (wordAt w i)=true:=by rw[h];exact(pG (Ap _)).1
end Sp
namespace Sp
open Go
theorem alW(b:UInt8):(decide ((32:Int)<=IntKind.i64.wrap (b.toNat:Int))&&decide (IntKind.i64.wrap (b.toNat:Int)<=126))=l7 b:=by
 have e:IntKind.i64.wrap (b.toNat:Int)=b.toNat:=by rw[IntKind.wrap_i64];have:=b.toNat_lt;omega
 rw[e];unfold l7;congr 1
 .exact decide_eq_decide.2 abn
 .exact decide_eq_decide.2 abn
theorem Ad{b:UInt8}:l7 b=true↔32<=b.toNat/\b.toNat<=126:=by unfold l7;rw[avo,avC,avC]
theorem aiJ{p:UInt8->Bool}{s:Bytes}(h:∀i,i<s.length->p (s.getD i 0)=true):s.all p=true:=by
 rw[avL];intro x hx;obtain⟨i,hi,rfl⟩:=axg.1 hx;have:=h i hi
 rwa [avr,avv hi]at this
theorem aaZ{p:UInt8->Bool}{s:Bytes}(h:s.all p=true){i:Nat}(hi:i<s.length):p (s.getD i 0)=true:=by rw[avr,avv hi];exact avL.1 h _ (awV hi)
theorem ae9{b:UInt8}(h:l7 b=true):Lib.isSp b=(b==32):=by have h:=Ad.1 h;unfold Lib.isSp;have ne:∀c:UInt8,c.toNat<32->(b==c)=false:=λc hc=>arz;rw[ne 9 abA,ne 10 abA,ne 11 abA,ne 12 abA,ne 13 abA];rfl
theorem aoG{s:Bytes}(h:s.all l7=true):Vo s=true:=by unfold Vo;rw[avL]at h ⊢;intro b hb;have:=Ad.1 (h b hb);rw[avC];omega
theorem qI{s:Bytes}:jA s=true↔s.length<=600/\s.all l7=true/\(Lib.fields s).length<=24:=by
 unfold jA;rw[avo,avo,avC,avC];constructor
 .rintro⟨⟨h1,h2⟩,h3⟩;exact⟨abn,h2,abn⟩
 .rintro⟨h1,h2,h3⟩;exact⟨⟨abn,h2⟩,abn⟩
theorem afV{s:Bytes}(h:jA s=true):(gG s,jA s,())=(wordsOf s,true,()):=by unfold gG;rw[h];rfl
theorem EN{s:Bytes}(h:¬(s.length<=600/\s.all l7=true/\(Lib.fields s).length<=24)):(gG s,jA s,())=(([]:LS),false,()):=by
 have:jA s=false:=by
  cases hs:jA s with
  |false=>rfl
  |true=>exact(h (qI.1 hs)).elim
 unfold gG;rw[this];rfl
theorem uJ(s:Bytes):(wordsOf s).length=(Lib.fields s).length:=by unfold wordsOf;rw[avI]
def splitAt(s:Bytes)(n b:Nat)(out:LS):Prop:=
 b<=n/\n<=s.length+1/\out.length<=n/\(∀i,i<n->i<s.length->l7 (s.getD i 0)=true)/\
 (n<=s.length->out.map (·.1)++Lib.fieldsGo ((s.take n).drop b) (s.drop n)=Lib.fields s)/\(n=s.length+1->out.map (·.1)=Lib.fields s)
theorem aiF(s:Bytes):splitAt s 0 0 []:=⟨avt _,avM _,avt _,λi hi=>absurd hi (awv _),λ_=>by simp[Lib.fields],λh=>abn⟩
theorem aiI{s:Bytes}{n b:Nat}{out:LS}(h:splitAt s n b out)(hn:n<s.length)(ho:l7 (s.getD n 0)=true)(hc:s.getD n 0≠32):splitAt s (n+1) b out:=by
 obtain⟨h1,h2,h3,h4,h5,h6⟩:=h;refine⟨abn,abn,abn,λi hi hi2=>?_,λ_=>?_,λh=>abn⟩
 .rcases avN i n with h|h
  .exact h4 i h hi2
  · rwa [show i=n from abn]
 .rw[← h5 abn,Fw.drop_cons s n 0 hn,Lib.fieldsGo_more _ _ _ (by rw[ae9 ho];exact avp.2 hc)];congr 2;rw[List.take_add_one,avv hn,avr,avv hn,axP];show List.drop b (List.take n s++[s[n]])=_;rw[awR aiO]
theorem aiG{s:Bytes}{n b:Nat}{out:LS}(h:splitAt s n b out)(hn:n<=s.length)(hb:b<n)(ho:n<s.length->l7 (s.getD n 0)=true/\s.getD n 0=32):
 splitAt s (n+1) (n+1) (out++[((s.take n).drop b,())]):=by
 obtain⟨h1,h2,h3,h4,h5,h6⟩:=h;have hne:(s.take n).drop b≠[]:=λe=>by have:=congrArg List.length e;simp at this;omega
 refine⟨avt _,abn,adK,λi hi hi2=>?_,λhl=>?_,λhl=>?_⟩
 .rcases avN i n with h|h
  .exact h4 i h hi2
  .rw[show i=n from abn];exact(ho abn).1
 .have hn2:n<s.length:=abn;obtain⟨o1,o2⟩:=ho hn2;rw[← h5 hn,Fw.drop_cons s n 0 hn2,Lib.fieldsGo_end _ _ _ (by rw[ae9 o1,o2];rfl) hne,(awN aiO :(s.take (n+1)).drop (n+1)=[]),aws,avE];rfl
 .have hn2:n=s.length:=abn;rw[← h5 hn,awN (by omega:s.length<=n),aws];cases hcur:(s.take n).drop b with
  |nil=>exact absurd hcur hne
  |cons _ _=>simp[Lib.fieldsGo]
theorem aiH{s:Bytes}{n b:Nat}{out:LS}(h:splitAt s n b out)(hn:n<=s.length)(hb:¬b<n)(ho:n<s.length->l7 (s.getD n 0)=true/\s.getD n 0=32):splitAt s (n+1) (n+1) out:=by
 obtain⟨h1,h2,h3,h4,h5,h6⟩:=h;have he:(s.take n).drop b=[]:=awN aiO;refine⟨avt _,abn,abn,λi hi hi2=>?_,λhl=>?_,λhl=>?_⟩
 .rcases avN i n with h|h
  .exact h4 i h hi2
  .rw[show i=n from abn];exact(ho abn).1
 .have hn2:n<s.length:=abn;obtain⟨o1,o2⟩:=ho hn2;rw[← h5 hn,he,Fw.drop_cons s n 0 hn2,Lib.fieldsGo_sp _ _ (by rw[ae9 o1,o2];rfl),awN aiO]
 .rw[← h5 hn,he,awN (by omega:s.length<=n)];simp[Lib.fieldsGo]
theorem ajU{s:Bytes}{b:Nat}{out:LS}(h:splitAt s (s.length+1) b out):s.all l7=true/\out=wordsOf s:=by obtain⟨h1,h2,h3,h4,h5,h6⟩:=h;refine⟨aiJ λi hi=>h4 i abn hi,?_⟩;unfold wordsOf;rw[← h6 rfl,map_unit]
def afa(s:Bytes):Prop:=∀b∈s,48<=b.toNat/\b.toNat<=57
theorem L8:∀(k:Nat)(s:Bytes),s.length=k->afa s->0<=jU s/\jU s<(10:Int) ^ k
 |0,s,h,_=>by rw[awm.1 h];exact⟨awk _,abA⟩
 |k+1,s,h,hd=>by
  have hne:s≠[]:=λe=>by rw[e]at h;cases h
  have e:s=s.take k++[s[k]' abn]:=by
   conv=>lhs;rw[← axa k s,awY (by omega:k<s.length),awN (by omega:s.length<=k+1)]
  have hd1:afa (s.take k):=λb hb=>hd b (aw2 hb);obtain⟨i1,i2⟩:=L8 k (s.take k) aiO hd1;have hb:=hd _ (awV (by omega:k<s.length));rw[e,ED,Int.pow_succ];omega
theorem ajT{s:Bytes}{n:Nat}(hn:n<s.length):jU (s.take (n+1))=10*jU (s.take n)+(((s.getD n 0).toNat:Int)-48):=by rw[List.take_add_one,avv hn,avr,avv hn];exact ED _ _
theorem aiE{s:Bytes}{n:Nat}(hn:n<s.length)(hl:s.length<=10)(hd:∀i,i<n->48<=(s.getD i 0).toNat/\(s.getD i 0).toNat<=57):0<=jU (s.take n)/\jU (s.take n)<1000000000:=by
 have hd:afa (s.take n):=by
  intro b hb;obtain⟨i,hi,rfl⟩:=axg.1 hb;have hi2:i<n:=by rw[avz]at hi;omega
  have:=hd i hi2;rw[avr,avv abn]at this;simpa using this
 obtain⟨h1,h2⟩:=L8 n (s.take n) aiO hd;refine⟨h1,Int.lt_of_lt_of_le h2 ?_⟩;have:n<=9:=abn
 match n,this with
 |0,_|1,_|2,_|3,_|4,_|5,_|6,_|7,_|8,_|9,_=>decide
theorem Oa{s:Bytes}{i:Nat}(hi:i<s.length)(h:¬(48<=(s.getD i 0).toNat/\(s.getD i 0).toNat<=57)):bf s=false:=by
 cases hp:bf s with
 |false=>rfl
 |true=>refine(h (QF hp _ ?_)).elim;rw[avr,avv hi];exact awV hi
theorem L6{s:Bytes}(h:bf s=false):((0:Int),false,())=(parseNum s,bf s,()):=by rw[AP h,h]
theorem alV{p:LS}{n:Nat}(hn:n<p.length):gy (p.take (n+1))=(if n=0 then[]else gy (p.take n)++[32])++(p.getD n ([],())).1:=by
 cases p with
 |nil=>cases hn
 |cons x r=>
  unfold gy;cases n with
  |zero=>simp[Lib.join_one]
  |succ n=>
   have hr:n<r.length:=by simpa using hn
   have e:(r.map (·.1))[n]? =some r[n].1:=by rw[awn,avv hr];rfl
   rw[if_neg abn,awP,awP,avK,avK,Lib.join_cons,Lib.join_cons,List.map_take,List.map_take,Lib.joinTail_take_succ _ _ _ _ e];rw[avr,List.getElem?_cons_succ,avv hr];simp[avE]
theorem agN:∀(p:LS)(n:Nat),(gy (p.take n)).length<=(gy p).length
 |[],n=>acA
 |x::r,0=>by simp[gy,Lib.join_nil]
 |x::r,n+1=>by unfold gy;rw[awP,avK,avK,Lib.join_cons,Lib.join_cons,List.map_take,avn,avn];have:=Lib.joinTail_take_le [32] (r.map (·.1)) n;omega
theorem pX{w:LS}{i:Int}(h:i<(w.length:Int)):wordAt w i=(w.getD i.toNat ([],())).1:=by unfold wordAt;rw[avH abn];rfl
theorem pY{w:LS}{i:Int}(h:i>=(w.length:Int)):wordAt w i=[]:=by unfold wordAt;rw[avD h];rfl
theorem AX{b:Bool}{x y:Bytes}(h1:b=true->x.length<=60)(h2:y.length<=60):(bif b then x else y).length<=60:=by
 cases b with
 |true=>exact h1 rfl
 |false=>exact h2
theorem qB{n:Bytes}(h:aW n=true):n.length<=6:=by unfold aW at h;rw[avo,avC]at h;omega
theorem agX(k u:Int)(nc:Nat)(n:Bytes)(a:Int):(TF k u nc n a).length<=60:=by
 have z:([]:Bytes).length<=60:=abA;have hi:∀m:Int,eu m=true->(Lib.itoa m).length<=10:=λm h=>(iC h).2.2.2.2;unfold TF;refine AX (λ_=>z) (AX (λ_=>z) (AX (λh=>?_) (AX (λh=>?_) (AX (λh=>?_) (AX (λh=>?_) (AX (λh=>?_) (AX (λh=>?_) (AX (λh=>?_) (AX (λh=>?_) z)))))))))
 all_goals simp only[avo]at h
 all_goals simp only[avn,avq,avu]
 .have:=hi u h.2.1;omega
 .have:=hi u h.2.1;have:=hi a h.2.2.1;omega
 .have:=hi u h.2.1;have:=qB h.2.2.1;omega
 .have:=hi a h.2.2.1;omega
 .have:=hi a h.2.2.1;omega
 .omega
 .have:=hi u h.2.1;have:=hi a h.2.2.1;have:=qB h.2.2.2;omega
 .have:=hi u h.2.1;have:=hi a h.2.2.1;have:=qB h.2.2.2;omega
theorem IC:∀(l cur:Bytes)(x:Bytes),x∈Lib.fieldsGo cur l->x.length<=cur.length+l.length
 |[],cur,x,h=>by
  rw[Lib.fieldsGo]at h;split at h
  .cases h
  .simp at h;subst h;simp
 |b::l,cur,x,h=>by
  rw[Lib.fieldsGo]at h;split at h
  .split at h
   .have:=IC l [] x h;simp at this ⊢;omega
   .rcases avF.1 h with rfl|h
    .simp
    .have:=IC l [] x h;simp at this ⊢;omega
  .have:=IC l (cur++[b]) x h;simp at this ⊢;omega
theorem Sm{s:Bytes}:∀x∈wordsOf s,x.1.length<=s.length:=by intro x hx;obtain⟨y,hy,rfl⟩:=awJ.1 hx;have:=IC s [] y hy;simpa using this
theorem tH{w:LS}{m:Nat}(h:∀x∈w,x.1.length<=m)(i:Int):(wordAt w i).length<=m:=by
 unfold wordAt;cases decide (i>=(w.length:Int))with
 |true=>exact avM _
 |false=>
  show(w.getD i.toNat ([],())).1.length<=m;rw[avr];cases hg:w[i.toNat]? with
  |none=>exact avM _
  |some x=>exact h x (awc hg)
theorem agY{w:LS}{m:Nat}(h:∀x∈w,x.1.length<=m):(ahg w).2.2.1.length<=m:=by
 rw[aoW];cases wordAt w 0==ai6 with
 |true=>exact avM _
 |false=>
 cases wordAt w 0==akL with
 |true=>exact avM _
 |false=>
 cases wordAt w 0==akM with
 |true=>exact tH h 2
 |false=>
 cases wordAt w 0==apE with
 |true=>exact avM _
 |false=>
 cases wordAt w 0==akN with
 |true=>exact avM _
 |false=>
 cases wordAt w 0==af4 with
 |true=>exact avM _
 |false=>
 cases wordAt w 0==apF with
 |true=>exact tH h 2
 |false=>
 cases wordAt w 0==ai7 with
 |true=>exact tH h 2
 |false=>exact avM _
theorem ZA{m:Nat}:∀r:List Bytes,(∀x∈r,x.length<=m)->(Lib.joinTail [32] r).length<=r.length*(m+1)
 |[],_=>avM _
 |x::r,h=>by
  have e:Lib.joinTail [32] (x::r)=[32]++(x++Lib.joinTail [32] r):=by simp[Lib.joinTail]
  have h1:=h x avA;have h2:=ZA r λy hy=>h y (avy _ hy);have h3:(x::r).length*(m+1)=r.length*(m+1)+(m+1):=by rw[avq,av8,ax8]
  rw[e,avn,avn,h3];show 1+_<=_;omega
theorem aaQ{m:Nat}{w:LS}(h:∀x∈w,x.1.length<=m):(gy w).length<=w.length*(m+1):=by
 cases w with
 |nil=>exact avM _
 |cons x r=>
  unfold gy;rw[avK,Lib.join_cons,avn];have h1:=h x avA;have h2:=ZA (m:=m) (r.map (·.1)) λy hy=>by obtain⟨z,hz,rfl⟩:=awJ.1 hy;exact h z (avy _ hz)
  rw[avI]at h2;rw[avq,av8,ax8];omega
theorem Zt{s:Bytes}(h:jA s=true):gG s=wordsOf s/\(wordsOf s).length<=1000/\(gy (wordsOf s)).length<=2097152/\(ahg (wordsOf s)).2.2.1.length<=1048576/\(aqn (ahg (wordsOf s))).length<=1048576:=by
 obtain⟨h1,_,h3⟩:=qI.1 h;have hw:∀x∈wordsOf s,x.1.length<=600:=λx hx=>avx (Sm x hx) h1;have hl:(wordsOf s).length<=24:=by rw[uJ];exact h3
 refine⟨by unfold gG;rw[h];rfl,abn,?_,avx (agY hw) abn,avx (agX _ _ _ _ _) abn⟩;have:=aaQ hw;have h24:(wordsOf s).length*(600+1)<=24*(600+1):=avO _ hl;omega
end Sp
namespace Sp
open Go
inductive QT where
 |leaf (n:ak)
 |neg (t:QT)
 |two (op:Int) (a b:QT)
def gq(op:Int):Bytes:=
 bif op==1 then[97,108,108]else bif op==2 then[104,97,115]else bif op==3 then[101,113]else bif op==4 then[108,116]else
 bif op==5 then[110,111,116]else bif op==6 then[97,110,100]else bif op==7 then[111,114]else bif op==8 then[105,110]else
 bif op==9 then[108,105,110,107,101,100]else[63]
def dG(w:Bytes):Int:=
 bif w==[97,108,108]then 1 else bif w==[104,97,115]then 2 else bif w==[101,113]then 3 else bif w==[108,116]then 4 else
 bif w==[110,111,116]then 5 else bif w==[97,110,100]then 6 else bif w==[111,114]then 7 else bif w==[105,110]then 8 else
 bif w==[108,105,110,107,101,100]then 9 else 0
def aZ(s:Bytes):Ed×Bool:=
 bif bf s then(bif decide (parseNum s<=999)then((1,parseNum s,[],()),true)else((0,0,[],()),false))
 else bif s==[45]then((0,0,[],()),true)else bif aW s then((2,0,s,()),true)else((0,0,[],()),false)
def bD(v:Ed):Bytes:=
 bif !bJ v.1 v.2.1 v.2.2.1 then[63]else bif v.1==1 then Lib.itoa v.2.1 else bif v.1==2 then v.2.2.1 else[45]
def QT.size:QT->Nat
 |.leaf _=>1
 |.neg t=>t.size+1
 |.two _ a b=>a.size+b.size+1
def post:QT->Nat->List ak
 |.leaf n,_=>[n]
 |.neg t,b=>post t b++[(5,((b+t.size:Nat):Int)-1,0,[],0,0,[],())]
 |.two op x y,b=>post x b++(post y (b+x.size)++[(op,((b+x.size:Nat):Int)-1,((b+x.size+y.size:Nat):Int)-1,[],0,0,[],())])
def jD(n:ak):List Bytes:=
 gq n.1::(bif n.1==2||(n.1==8||n.1==9)then[n.2.2.2.1]else bif n.1==3||n.1==4 then[n.2.2.2.1,bD n.2.2.2.2]else[])
def aI:QT->List Bytes
 |.leaf n=>jD n
 |.neg t=>gq 5::aI t
 |.two op a b=>gq op::(aI a++aI b)
def ls(w:List Bytes):LS:=w.map (·,())
def xw:QT->Prop
 |.leaf n=>n.1=1\/n.1=2\/n.1=3\/n.1=4\/n.1=8\/n.1=9
 |.neg t=>xw t
 |.two op a b=>(op=6\/op=7)/\xw a/\xw b
def zo:QT->Prop
 |.leaf n=>dS n 0=true
 |.neg t=>zo t
 |.two _ a b=>zo a/\zo b
theorem eH:∀(t:QT)(b:Nat),(post t b).length=t.size
 |.leaf _,_=>rfl
 |.neg t,b=>by rw[post,avn,eH t b];rfl
 |.two op x y,b=>by rw[post,avn,avn,eH x b,eH y];rw[QT.size,avq,avu];omega
theorem size_pos:∀t:QT,0<t.size
 |.leaf _=>Nat.one_pos
 |.neg _=>awX _
 |.two _ _ _=>awX _
theorem Ae(w:Bytes):dG w=0\/((dG w=1\/dG w=2\/dG w=3\/dG w=4\/dG w=5\/dG w=6\/dG w=7\/dG w=8\/dG w=9)/\gq (dG w)=w):=by
 unfold dG;cases h1:w==[97,108,108]with
 |true=>right;rw[avS.1 h1];decide
 |false=>
 cases h2:w==[104,97,115]with
 |true=>right;rw[avS.1 h2];decide
 |false=>
 cases h3:w==[101,113]with
 |true=>right;rw[avS.1 h3];decide
 |false=>
 cases h4:w==[108,116]with
 |true=>right;rw[avS.1 h4];decide
 |false=>
 cases h5:w==[110,111,116]with
 |true=>right;rw[avS.1 h5];decide
 |false=>
 cases h6:w==[97,110,100]with
 |true=>right;rw[avS.1 h6];decide
 |false=>
 cases h7:w==[111,114]with
 |true=>right;rw[avS.1 h7];decide
 |false=>
 cases h8:w==[105,110]with
 |true=>right;rw[avS.1 h8];decide
 |false=>
 cases h9:w==[108,105,110,107,101,100]with
 |true=>right;rw[avS.1 h9];decide
 |false=>left;rfl
theorem zq{op:Int}(h:op=1\/op=2\/op=3\/op=4\/op=5\/op=6\/op=7\/op=8\/op=9):dG (gq op)=op:=by rcases h with rfl|rfl|rfl|rfl|rfl|rfl|rfl|rfl|rfl<;>decide
theorem aoX:dG []=0:=abA
def rd:Nat->LS->List ak->Bool×LS×List ak
 |0,w,q=>(false,w,q)
 |k+1,w,q=>
  bif dG (wordAt w 0)==2||(dG (wordAt w 0)==8||dG (wordAt w 0)==9)then(true,(w.drop 1).drop 1,q++[(dG (wordAt w 0),0,0,wordAt (w.drop 1) 0,0,0,[],())])
  else bif dG (wordAt w 0)==3||dG (wordAt w 0)==4 then
   ((aZ (wordAt ((w.drop 1).drop 1) 0)).2,((w.drop 1).drop 1).drop 1,q++[(dG (wordAt w 0),0,0,wordAt (w.drop 1) 0,(aZ (wordAt ((w.drop 1).drop 1) 0)).1)])
  else bif dG (wordAt w 0)==5 then
   ((rd k (w.drop 1) q).1,(rd k (w.drop 1) q).2.1,(rd k (w.drop 1) q).2.2++[(5,((rd k (w.drop 1) q).2.2.length:Int)-1,0,[],0,0,[],())])
  else bif dG (wordAt w 0)==6||dG (wordAt w 0)==7 then
   (bif (rd k (w.drop 1) q).1 then
     ((rd k (rd k (w.drop 1) q).2.1 (rd k (w.drop 1) q).2.2).1,(rd k (rd k (w.drop 1) q).2.1 (rd k (w.drop 1) q).2.2).2.1,
       (rd k (rd k (w.drop 1) q).2.1 (rd k (w.drop 1) q).2.2).2.2++[(dG (wordAt w 0),((rd k (w.drop 1) q).2.2.length:Int)-1,((rd k (rd k (w.drop 1) q).2.1 (rd k (w.drop 1) q).2.2).2.2.length:Int)-1,[],0,0,[],())])
   else(false,(rd k (w.drop 1) q).2.1,(rd k (w.drop 1) q).2.2++[(dG (wordAt w 0),((rd k (w.drop 1) q).2.2.length:Int)-1,((rd k (w.drop 1) q).2.2.length:Int)-1,[],0,0,[],())]))
  else(!(dG (wordAt w 0)==0),w.drop 1,q++[(dG (wordAt w 0),0,0,[],0,0,[],())])
theorem Ky(i:Int)(h:0<=i):wordAt [] i=[]:=pY acG
theorem eY(x:Bytes×Unit)(w:LS):wordAt (x::w) 0=x.1:=by rw[pX acA];rfl
theorem X6{w:LS}(h:dG (wordAt w 0)≠0):∃r,w=(gq (dG (wordAt w 0)),())::r/\w.drop 1=r:=by
 cases w with
 |nil=>exact(h (by rw[Ky 0 (awk _)];exact aoX)).elim
 |cons x r=>
  obtain⟨x,⟨⟩⟩:=x;rcases Ae (wordAt ((x,())::r) 0)with e|⟨_,e⟩
  .exact(h e).elim
  .refine⟨r,?_,rfl⟩;rw[e,eY]
theorem Md:∀(k:Nat)(w:LS)(q:List ak),(rd k w q).2.1.length<=w.length
 |0,w,q=>avt _
 |k+1,w,q=>by
  have h1:=Md k (w.drop 1) q;have h2:=Md k (rd k (w.drop 1) q).2.1 (rd k (w.drop 1) q).2.2;have h3:(w.drop 1).length<=w.length:=amS;rw[rd];cases dG (wordAt w 0)==2||(dG (wordAt w 0)==8||dG (wordAt w 0)==9)with
  |true=>show((w.drop 1).drop 1).length<=_;rw[avW];omega
  |false=>
  cases dG (wordAt w 0)==3||dG (wordAt w 0)==4 with
  |true=>show(((w.drop 1).drop 1).drop 1).length<=_;rw[avW,avW];omega
  |false=>
  cases dG (wordAt w 0)==5 with
  |true=>exact avx h1 h3
  |false=>
  cases dG (wordAt w 0)==6||dG (wordAt w 0)==7 with
  |true=>
   show(bif (rd k (w.drop 1) q).1 then _ else _:Bool×LS×List ak).2.1.length<=_;cases (rd k (w.drop 1) q).1 with
   |true=>exact avx h2 (avx h1 h3)
   |false=>exact avx h1 h3
  |false=>exact h3
end Sp
namespace Sp
open Go
theorem asv{n:Int}{s:Bytes}(h:bJ 1 n s=true):0<=n/\n<=999/\s=[]:=by unfold bJ at h;simp at h;exact⟨h.1.1,h.1.2,h.2⟩
theorem asw{n:Int}{s:Bytes}(h:bJ 2 n s=true):aW s=true/\n=0:=by unfold bJ at h;simp at h;exact h
theorem ama{v:Ed}(h:bJ v.1 v.2.1 v.2.2.1=true)(h0:v.1≠0):(∃n,v=(1,n,[],())/\0<=n/\n<=999)\/∃s,v=(2,0,s,())/\aW s=true:=by
 obtain⟨k,n,s,⟨⟩⟩:=v;by_cases h1:k=1
 .subst h1;obtain⟨a,b,c⟩:=asv h;have c:s=[]:=c;subst c;exact .inl ⟨n,rfl,a,b⟩
 by_cases h2:k=2
 .subst h2;obtain⟨a,b⟩:=asw h;have b:n=0:=b;subst b;exact .inr ⟨s,rfl,a⟩
 .unfold bJ at h;dsimp only at h h0;rw[avH h0,avH h1,avH h2]at h;cases h
theorem amb{s:Bytes}(h:aW s=true):∃b r,s=b::r/\97<=b.toNat:=by
 unfold aW at h;rw[avo,avo,avC]at h;cases s with
 |nil=>exact absurd h.1.2 abA
 |cons b r=>refine⟨b,r,rfl,?_⟩;have h1:=h.1.1;unfold lower at h1;rw[awH,avo,avo,avC]at h1;exact h1.1.1
theorem agZ{s:Bytes}(h:aW s=true):bf s=false/\(s==[45])=false:=by
 obtain⟨b,r,rfl,hb⟩:=amb h;refine⟨?_,?_⟩
 .cases hp:bf (b::r)with
  |false=>rfl
  |true=>have:=QF hp b avA;omega
 .rw[avp];intro e;have:b=45:=(List.cons.inj e).1;rw[this]at hb;exact absurd hb abA
theorem ZB:bf []=false:=by
 cases h:bf []with
 |false=>rfl
 |true=>obtain⟨a,b⟩:=jH h;exact((adt b).1 a).elim
theorem O5{v:Ed}(h:bJ v.1 v.2.1 v.2.2.1=true)(h0:v.1≠0):aZ (bD v)=(v,true):=by
 unfold bD;rw[h];rcases ama h h0 with⟨n,rfl,a,b⟩|⟨s,rfl,a⟩
 .show aZ (Lib.itoa n)=_;have hu:eu n=true:=by unfold eu;rw[avD a,avD (show n<=1000000000 from abn)];rfl
  obtain⟨q1,q2⟩:=pG hu;unfold aZ;rw[q1,q2,avD b];rfl
 .show aZ s=_;obtain⟨q1,q2⟩:=agZ a;unfold aZ;rw[q1,q2,a];rfl
theorem ZC{s:Bytes}(h:bJ (aZ s).1.1 (aZ s).1.2.1 (aZ s).1.2.2.1=true)(h0:(aZ s).1.1≠0):(aZ s).2=true/\bD (aZ s).1=s:=by
 unfold bD;rw[h];revert h0;unfold aZ;cases h1:bf s with
 |true=>
  cases h2:decide (parseNum s<=999)with
  |true=>exactλ_=>⟨rfl,(jH h1).1⟩
  |false=>exactλh0=>(h0 rfl).elim
 |false=>
  cases h2:s==[45]with
  |true=>exactλh0=>(h0 rfl).elim
  |false=>
   cases h3:aW s with
   |true=>exactλ_=>⟨rfl,rfl⟩
   |false=>exactλh0=>(h0 rfl).elim
theorem afb{s:Bytes}(h:dD s=true):s≠[]:=by rintro rfl;exact absurd h abA
theorem ai8{s:Bytes}(h:aW s=true):s≠[]:=by rintro rfl;exact absurd h abA
theorem xA{n:ak}{a:Int}(h:dS n a=true)(hw:n.1=1\/n.1=2\/n.1=3\/n.1=4\/n.1=8\/n.1=9):
 n=(1,0,0,[],0,0,[],())\/(∃op s,n=(op,0,0,s,0,0,[],())/\(op=2\/op=8\/op=9)/\s≠[])\/
 ∃op s v,n=(op,0,0,s,v)/\(op=3\/op=4)/\s≠[]/\bJ v.1 v.2.1 v.2.2.1=true/\v.1≠0:=by
 obtain⟨op,l,r,s,k,m,t,⟨⟩⟩:=n;dsimp only at hw;rcases hw with rfl|rfl|rfl|rfl|rfl|rfl
 .left;have h:((l==0&&r==0)&&(s==[]&&(k==0&&(m==0&&t==[]))))=true:=h;simp only[avo,avS]at h;rw[h.1.1,h.1.2,h.2.1,h.2.2.1,h.2.2.2.1,h.2.2.2.2]
 .right;left;have h:((l==0&&r==0)&&(k==0&&(m==0&&t==[]))&&dD s)=true:=h;simp only[avo,avS]at h;refine⟨2,s,?_,.inl rfl,afb h.2⟩;rw[h.1.1.1,h.1.1.2,h.1.2.1,h.1.2.2.1,h.1.2.2.2]
 .right;right;have h:((l==0&&r==0)&&dD s&&bJ k m t&&!(k==0))=true:=h;simp only[avo,avS,aw5,avp]at h;refine⟨3,s,(k,m,t,()),?_,.inl rfl,afb h.1.1.2,h.1.2,h.2⟩;rw[h.1.1.1.1,h.1.1.1.2]
 .right;right;have h:((l==0&&r==0)&&dD s&&bJ k m t&&k==1)=true:=h;simp only[avo,avS]at h;refine⟨4,s,(k,m,t,()),?_,.inr rfl,afb h.1.1.2,h.1.2,afw⟩;rw[h.1.1.1.1,h.1.1.1.2]
 .right;left;have h:((l==0&&r==0)&&(k==0&&(m==0&&t==[]))&&aW s)=true:=h;simp only[avo,avS]at h;refine⟨8,s,?_,.inr (.inl rfl),ai8 h.2⟩;rw[h.1.1.1,h.1.1.2,h.1.2.1,h.1.2.2.1,h.1.2.2.2]
 .right;left;have h:((l==0&&r==0)&&(k==0&&(m==0&&t==[]))&&aW s)=true:=h;simp only[avo,avS]at h;refine⟨9,s,?_,.inr (.inr rfl),ai8 h.2⟩;rw[h.1.1.1,h.1.1.2,h.1.2.1,h.1.2.2.1,h.1.2.2.2]
theorem AY{w:LS}(h:wordAt w 0≠[]):w=(wordAt w 0,())::w.drop 1:=by
 cases w with
 |nil=>exact(h (Ky 0 (awk _))).elim
 |cons x r=>obtain⟨x,⟨⟩⟩:=x;rw[eY];rfl
theorem X9:∀(k:Nat)(w:LS)(q:List ak),(rd k w q).1=true->∃t,xw t/\(rd k w q).2.2=q++post t q.length/\(zo t->w=ls (aI t)++(rd k w q).2.1)
 |0,w,q,h=>agk
 |k+1,w,q,h=>by
  by_cases h0:dG (wordAt w 0)=0
  .rw[rd,h0]at h;cases h
  obtain⟨r,e,e2⟩:=X6 h0;rcases Ae (wordAt w 0)with c|⟨c,_⟩
  .exact(h0 c).elim
  rw[rd]at h ⊢;rw[e2]at h ⊢;generalize dG (wordAt w 0)=op at h c e h0 ⊢;have TT:op=2\/op=8\/op=9->∃t,xw t/\q++[(op,0,0,wordAt r 0,0,0,[],())]=q++post t q.length/\(zo t->w=ls (aI t)++r.drop 1):=λc=>by
   refine⟨.leaf (op,0,0,wordAt r 0,0,0,[],()),?_,rfl,λht=>?_⟩
   .show op=1\/op=2\/op=3\/op=4\/op=8\/op=9;omega
   .have ht:dS (op,0,0,wordAt r 0,0,0,[],()) 0=true:=ht;have hn:wordAt r 0≠[]:=by
     rcases xA ht afw with x|⟨_,s,x,_,hs⟩|⟨op',s,v,x,hop,_⟩
     .have:=congrArg (·.1) x;dsimp only at this;omega
     .have:=congrArg (λn:ak=>n.2.2.2.1) x;dsimp only at this;rw[this];exact hs
     .have:=congrArg (·.1) x;dsimp only at this;omega
    rw[e,AY hn];have hb:(op==2||(op==8||op==9))=true:=by rcases c with rfl|rfl|rfl<;>rfl
    show _=ls (gq op::(bif op==2||(op==8||op==9)then[wordAt ((wordAt r 0,())::r.drop 1) 0]else _))++_;rw[hb,eY];rfl
  have adu:op=3\/op=4->∃t,xw t/\q++[(op,0,0,wordAt r 0,(aZ (wordAt (r.drop 1) 0)).1)]=q++post t q.length/\(zo t->w=ls (aI t)++(r.drop 1).drop 1):=λc=>by
   refine⟨.leaf (op,0,0,wordAt r 0,(aZ (wordAt (r.drop 1) 0)).1),?_,rfl,λht=>?_⟩
   .show op=1\/op=2\/op=3\/op=4\/op=8\/op=9;omega
   .have ht:dS (op,0,0,wordAt r 0,(aZ (wordAt (r.drop 1) 0)).1) 0=true:=ht;have hn:wordAt r 0≠[]/\(aZ (wordAt (r.drop 1) 0)).2=true/\bD (aZ (wordAt (r.drop 1) 0)).1=wordAt (r.drop 1) 0:=by
     rcases xA ht afw with x|⟨op',s,x,hop,hs⟩|⟨op',s,v,x,hop,hs,hv,h1⟩
     .have:=congrArg (·.1) x;dsimp only at this;omega
     .have:=congrArg (·.1) x;dsimp only at this;omega
     .have x1:=congrArg (λn:ak=>n.2.2.2.1) x;have x2:=congrArg (λn:ak=>n.2.2.2.2) x;dsimp only at x1 x2;refine⟨by rw[x1];exact hs,ZC (by rw[x2];exact hv) (by rw[x2];exact h1)⟩
    have hw2:wordAt (r.drop 1) 0≠[]:=λe0=>by
     rw[e0]at hn;have:(aZ []).2=false:=by unfold aZ;rw[ZB];rfl
     rw[this]at hn;cases hn.2.1
    have hb:(op==2||(op==8||op==9))=false:=asD;have hb2:(op==3||op==4)=true:=asD;have e3:r=(wordAt r 0,())::(wordAt (r.drop 1) 0,())::(r.drop 1).drop 1:=by rw[← AY hw2];exact AY hn.1
    show _=ls (gq op::(bif op==2||(op==8||op==9)then _ else bif op==3||op==4 then[wordAt r 0,bD (aZ (wordAt (r.drop 1) 0)).1]else _))++_;rw[hb,hb2,hn.2.2];exact e.trans (congrArg _ e3)
  have ai9:(op=6\/op=7)->(rd k r q).1=true->(rd k (rd k r q).2.1 (rd k r q).2.2).1=true->∃t,xw t/\(rd k (rd k r q).2.1 (rd k r q).2.2).2.2++[(op,((rd k r q).2.2.length:Int)-1,((rd k (rd k r q).2.1 (rd k r q).2.2).2.2.length:Int)-1,[],0,0,[],())]=q++post t q.length/\(zo t->w=ls (aI t)++(rd k (rd k r q).2.1 (rd k r q).2.2).2.1):=λc g1 g2=>by
   obtain⟨x,x1,x2,x3⟩:=X9 k r q g1;obtain⟨y,y1,y2,y3⟩:=X9 k _ _ g2;have lx:(rd k r q).2.2.length=q.length+x.size:=by rw[x2,avn,eH]
   have ly:(rd k (rd k r q).2.1 (rd k r q).2.2).2.2.length=q.length+x.size+y.size:=by rw[y2,avn,eH,lx]
   refine⟨.two op x y,⟨c,x1,y1⟩,?_,λht=>?_⟩
   .rw[ly,lx,y2,lx,x2];show _=q++(post x q.length++(post y (q.length+x.size)++[_]));rw[avE,avE]
   .obtain⟨t1,t2⟩:zo x/\zo y:=ht;rw[e];show _=ls (gq op::(aI x++aI y))++_;unfold ls;rw[avK,aws,awD,avE];exact congrArg _ ((x3 t1).trans (congrArg _ (y3 t2)))
  rcases c with rfl|rfl|rfl|rfl|rfl|rfl|rfl|rfl|rfl
  .refine⟨.leaf (1,0,0,[],0,0,[],()),.inl rfl,rfl,λ_=>?_⟩;rw[e];rfl
  .exact TT (.inl rfl)
  .exact adu (.inl rfl)
  .exact adu (.inr rfl)
  .have h:(rd k r q).1=true:=h;obtain⟨x,x1,x2,x3⟩:=X9 k r q h;have lx:(rd k r q).2.2.length=q.length+x.size:=by rw[x2,avn,eH]
   refine⟨.neg x,x1,?_,λht=>?_⟩
   .show(rd k r q).2.2++[(5,((rd k r q).2.2.length:Int)-1,0,[],0,0,[],())]=q++(post x q.length++[_]);rw[lx,x2,avE]
   .rw[e];show _=ls (gq 5::aI x)++(rd k r q).2.1;exact congrArg _ (x3 ht)
  .have h:(bif (rd k r q).1 then _ else _:Bool×LS×List ak).1=true:=h;cases g:(rd k r q).1 with
   |false=>rw[g]at h;cases h
   |true=>rw[g]at h;exact ai9 (.inl rfl) g h
  .have h:(bif (rd k r q).1 then _ else _:Bool×LS×List ak).1=true:=h;cases g:(rd k r q).1 with
   |false=>rw[g]at h;cases h
   |true=>rw[g]at h;exact ai9 (.inr rfl) g h
  .exact TT (.inr (.inl rfl))
  .exact TT (.inr (.inr rfl))
end Sp
namespace Sp
open Go
theorem arj(k:Nat)(r:LS)(q:List ak):rd (k+1) ((gq 1,())::r) q=(true,r,q++[(1,0,0,[],0,0,[],())]):=by rw[rd,eY,zq (.inl rfl)];rfl
theorem aqo{op:Int}(c:op=2\/op=8\/op=9)(k:Nat)(r:LS)(q:List ak):rd (k+1) ((gq op,())::r) q=(true,r.drop 1,q++[(op,0,0,wordAt r 0,0,0,[],())]):=by rw[rd,eY,zq abn];rcases c with rfl|rfl|rfl<;>rfl
theorem rd_val{op:Int}(c:op=3\/op=4)(k:Nat)(r:LS)(q:List ak):rd (k+1) ((gq op,())::r) q=((aZ (wordAt (r.drop 1) 0)).2,(r.drop 1).drop 1,q++[(op,0,0,wordAt r 0,(aZ (wordAt (r.drop 1) 0)).1)]):=by rw[rd,eY,zq abn];rcases c with rfl|rfl<;>rfl
theorem rd_not(k:Nat)(r:LS)(q:List ak):rd (k+1) ((gq 5,())::r) q=((rd k r q).1,(rd k r q).2.1,(rd k r q).2.2++[(5,((rd k r q).2.2.length:Int)-1,0,[],0,0,[],())]):=by rw[rd,eY,zq (.inr (.inr (.inr (.inr (.inl rfl)))))];rfl
theorem ark{op:Int}(c:op=6\/op=7)(k:Nat)(r:LS)(q:List ak)(h:(rd k r q).1=true):rd (k+1) ((gq op,())::r) q=
 ((rd k (rd k r q).2.1 (rd k r q).2.2).1,(rd k (rd k r q).2.1 (rd k r q).2.2).2.1,(rd k (rd k r q).2.1 (rd k r q).2.2).2.2++[(op,((rd k r q).2.2.length:Int)-1,((rd k (rd k r q).2.1 (rd k r q).2.2).2.2.length:Int)-1,[],0,0,[],())]):=by
 rw[rd,eY,zq abn];rcases c with rfl|rfl
 .show(bif (rd k r q).1 then _ else _:Bool×LS×List ak)=_;rw[h];rfl
 .show(bif (rd k r q).1 then _ else _:Bool×LS×List ak)=_;rw[h];rfl
theorem aja(x:Bytes)(a b:List Bytes)(r:LS):ls (x::(a++b))++r=(x,())::(ls a++(ls b++r)):=by unfold ls;rw[avK,aws,awD,avE]
theorem Dh{op:Int}{s:Bytes}(c:op=2\/op=8\/op=9):jD (op,0,0,s,0,0,[],())=[gq op,s]:=by rcases c with rfl|rfl|rfl<;>rfl
theorem FH{op:Int}{s:Bytes}{v:Ed}(c:op=3\/op=4):jD (op,0,0,s,v)=[gq op,s,bD v]:=asD
theorem MH:∀(t:QT)(k:Nat)(rest:LS)(q:List ak),xw t->zo t->(ls (aI t)++rest).length<k->rd k (ls (aI t)++rest) q=(true,rest,q++post t q.length)
 |_,0,_,_,_,_,h=>absurd h (awv _)
 |.leaf n,k+1,rest,q,hw,ho,_=>by
  have hw:n.1=1\/n.1=2\/n.1=3\/n.1=4\/n.1=8\/n.1=9:=hw;rcases xA ho hw with rfl|⟨op,s,rfl,c,hs⟩|⟨op,s,v,rfl,c,hs,hv,h0⟩
  .exact arj k rest q
  .show rd (k+1) (ls (jD _)++rest) q=_;rw[Dh c];show rd (k+1) ((gq op,())::(s,())::rest) q=_;rw[aqo c,eY];rfl
  .show rd (k+1) (ls (jD _)++rest) q=_;rw[FH c];show rd (k+1) ((gq op,())::(s,())::(bD v,())::rest) q=_;rw[rd_val c,eY];show((aZ (wordAt ((bD v,())::rest) 0)).2,rest,q++[(op,0,0,s,(aZ (wordAt ((bD v,())::rest) 0)).1)])=_;rw[eY,O5 hv h0];rfl
 |.neg t,k+1,rest,q,hw,ho,h=>by
  have h:((gq 5,())::(ls (aI t)++rest)).length<k+1:=h;rw[avq]at h;show rd (k+1) ((gq 5,())::(ls (aI t)++rest)) q=_;rw[rd_not,MH t k rest q hw ho abn];show(true,rest,(q++post t q.length)++[(5,((q++post t q.length).length:Int)-1,0,[],0,0,[],())])=(true,rest,q++(post t q.length++[_]));rw[avn,eH,avE]
 |.two op x y,k+1,rest,q,⟨c,w1,w2⟩,⟨o1,o2⟩,h=>by show rd (k+1) (ls (gq op::(aI x++aI y))++rest) q=_;have h:(ls (gq op::(aI x++aI y))++rest).length<k+1:=h;rw[aja]at h ⊢;rw[avq]at h;have e1:=MH x k (ls (aI y)++rest) q w1 o1 abn;rw[avn]at h;have e2:=MH y k rest (q++post x q.length) w2 o2 abn;rw[ark c k _ q (by rw[e1]),e1,e2];show(true,rest,((q++post x q.length)++post y (q++post x q.length).length)++[(op,((q++post x q.length).length:Int)-1,(((q++post x q.length)++post y (q++post x q.length).length).length:Int)-1,[],0,0,[],())])=(true,rest,q++(post x q.length++(post y (q.length+x.size)++[_])));rw[avn,avn,eH,eH,avn,eH,avE,avE]
def rs:Nat->LS->List ak->List ak×Int
 |0,_,q=>(q,0)
 |d+1,w,q=>
  bif dG (wordAt w 0)==0||decide ((q.length:Int)>9)then(q,0)
  else bif dG (wordAt w 0)==2||(dG (wordAt w 0)==8||dG (wordAt w 0)==9)then(q++[(dG (wordAt w 0),0,0,wordAt w 1,0,0,[],())],2)
  else bif dG (wordAt w 0)==3||dG (wordAt w 0)==4 then(q++[(dG (wordAt w 0),0,0,wordAt w 1,(aZ (wordAt w 2)).1)],3)
  else bif dG (wordAt w 0)==5||(dG (wordAt w 0)==6||dG (wordAt w 0)==7)then
   (bif (rs d (w.drop 1) q).2==0 then((rs d (w.drop 1) q).1,0)
   else bif dG (wordAt w 0)==5 then((rs d (w.drop 1) q).1++[(5,((rs d (w.drop 1) q).1.length:Int)-1,0,[],0,0,[],())],1+(rs d (w.drop 1) q).2)
   else bif (rs d (w.drop (1+(rs d (w.drop 1) q).2).toNat) (rs d (w.drop 1) q).1).2==0 then((rs d (w.drop (1+(rs d (w.drop 1) q).2).toNat) (rs d (w.drop 1) q).1).1,0)
   else((rs d (w.drop (1+(rs d (w.drop 1) q).2).toNat) (rs d (w.drop 1) q).1).1++[(dG (wordAt w 0),((rs d (w.drop 1) q).1.length:Int)-1,((rs d (w.drop (1+(rs d (w.drop 1) q).2).toNat) (rs d (w.drop 1) q).1).1.length:Int)-1,[],0,0,[],())],
    1+(rs d (w.drop 1) q).2+(rs d (w.drop (1+(rs d (w.drop 1) q).2).toNat) (rs d (w.drop 1) q).1).2))
  else(q++[(dG (wordAt w 0),0,0,[],0,0,[],())],1)
theorem Ee(x:Bytes×Unit)(r:LS)(i:Int)(h:0<=i):wordAt (x::r) (i+1)=wordAt r i:=by
 by_cases hi:i<(r.length:Int)
 .rw[pX hi,pX (by rw[avq];omega),show(i+1).toNat=i.toNat+1 from abn];rfl
 .rw[pY (show i>=(r.length:Int)from abn),pY (by rw[avq];omega)]
theorem adv(x:Bytes×Unit)(r:LS):wordAt (x::r) 2=wordAt (r.drop 1) 0:=by
 rw[show(2:Int)=1+1 from rfl,Ee x r 1 abA];cases r with
 |nil=>rw[Ky 1 abA];exact(Ky 0 abA).symm
 |cons y r=>rw[show(1:Int)=0+1 from rfl,Ee y r 0 abA];rfl
theorem Kz(x:Bytes×Unit)(r:LS):wordAt (x::r) 1=wordAt r 0:=Ee x r 0 abA
theorem TU:∀(t:QT)(d:Nat)(rest:LS)(q:List ak),xw t->zo t->t.size<=d->q.length+t.size<=10->rs d (ls (aI t)++rest) q=(q++post t q.length,((aI t).length:Int))
 |t,0,_,_,_,_,h,_=>absurd (size_pos t) abn
 |.leaf n,d+1,rest,q,hw,ho,_,hq=>by
  have hq1:q.length+1<=10:=hq;have hq2:decide ((q.length:Int)>9)=false:=avH abn;have hw:n.1=1\/n.1=2\/n.1=3\/n.1=4\/n.1=8\/n.1=9:=hw;rcases xA ho hw with rfl|⟨op,s,rfl,c,hs⟩|⟨op,s,v,rfl,c,hs,hv,h0⟩
  .show rs (d+1) ((gq 1,())::rest) q=_;rw[rs,eY,zq (.inl rfl),hq2];rfl
  .show rs (d+1) (ls (jD _)++rest) q=(_,((jD _).length:Int));rw[Dh c];show rs (d+1) ((gq op,())::(s,())::rest) q=_;rw[rs,Kz,eY,eY,zq abn,hq2];rcases c with rfl|rfl|rfl<;>rfl
  .show rs (d+1) (ls (jD _)++rest) q=(_,((jD _).length:Int));rw[FH c];show rs (d+1) ((gq op,())::(s,())::(bD v,())::rest) q=_;rw[rs,Kz,adv,eY,eY,zq abn,hq2];have e:wordAt (List.drop 1 ((s,())::(bD v,())::rest)) 0=bD v:=eY _ _;rw[e,O5 hv h0];rcases c with rfl|rfl<;>rfl
 |.neg t,d+1,rest,q,hw,ho,hd,hq=>by
  have hd:t.size+1<=d+1:=hd;have hq:q.length+(t.size+1)<=10:=hq;have hq':decide ((q.length:Int)>9)=false:=avH abn;have e:=TU t d rest q hw ho abn abn;have hl:0<(aI t).length:=by
   cases t with
   |leaf n=>exact awX _
   |neg t=>exact awX _
   |two op a b=>exact awX _
  show rs (d+1) ((gq 5,())::(ls (aI t)++rest)) q=_;rw[rs,eY,zq (.inr (.inr (.inr (.inr (.inl rfl))))),hq'];show(bif (rs d (ls (aI t)++rest) q).2==0 then _ else(_,1+(rs d (ls (aI t)++rest) q).2):List ak×Int)=_;rw[show List.drop 1 ((gq 5,())::(ls (aI t)++rest))=ls (aI t)++rest from rfl,e];rw[show(((aI t).length:Int)==0)=false from avp.2 abn];show((q++post t q.length)++[(5,((q++post t q.length).length:Int)-1,0,[],0,0,[],())],1+((aI t).length:Int))=(q++(post t q.length++[_]),(((aI t).length+1:Nat):Int));rw[avn,eH,avE,show(1+((aI t).length:Int))=(((aI t).length+1:Nat):Int)from abn]
 |.two op x y,d+1,rest,q,⟨c,w1,w2⟩,⟨o1,o2⟩,hd,hq=>by
  have hd:x.size+y.size+1<=d+1:=hd;have hq:q.length+(x.size+y.size+1)<=10:=hq;have sx:=size_pos x;have sy:=size_pos y;have hq':decide ((q.length:Int)>9)=false:=avH abn;have wl:∀t:QT,0<(aI t).length:=λt=>by
   cases t with
   |leaf n=>exact awX _
   |neg t=>exact awX _
   |two op a b=>exact awX _
  have l1:=wl x;have l2:=wl y;have e1:=TU x d (ls (aI y)++rest) q w1 o1 abn abn;have e2:=TU y d rest (q++post x q.length) w2 o2 abn (by rw[avn,eH];omega);show rs (d+1) (ls (gq op::(aI x++aI y))++rest) q=_;rw[aja,rs,eY,zq abn,hq'];rw[show List.drop 1 ((gq op,())::(ls (aI x)++(ls (aI y)++rest)))=ls (aI x)++(ls (aI y)++rest)from rfl,e1];have ed:List.drop (1+((aI x).length:Int)).toNat ((gq op,())::(ls (aI x)++(ls (aI y)++rest)))=ls (aI y)++rest:=by rw[show(1+((aI x).length:Int)).toNat=(aI x).length+1 from abn,ayp];exact List.drop_left' asR
  dsimp only;rw[ed,e2];rw[show(((aI x).length:Int)==0)=false from avp.2 abn,show(((aI y).length:Int)==0)=false from avp.2 abn];have fin:((q++post x q.length)++post y (q++post x q.length).length++[(op,((q++post x q.length).length:Int)-1,((q++post x q.length++post y (q++post x q.length).length).length:Int)-1,[],0,0,[],())],1+((aI x).length:Int)+((aI y).length:Int))=(q++post (.two op x y) q.length,((aI (.two op x y)).length:Int)):=by show _=(q++(post x q.length++(post y (q.length+x.size)++[_])),((gq op::(aI x++aI y)).length:Int));rw[avn,avn,eH,eH,avn,eH,avE,avE,avq,avn];rw[show(1+((aI x).length:Int)+((aI y).length:Int))=(((aI x).length+(aI y).length+1:Nat):Int)from abn]
  rcases c with rfl|rfl<;>exact fin
end Sp
namespace Sp
open Go
theorem aj3{op:Int}{r:LS}(c:op=2\/op=8\/op=9)(ht:dS (op,0,0,wordAt r 0,0,0,[],()) 0=true):
 (gq op,())::r=ls (jD (op,0,0,wordAt r 0,0,0,[],()))++r.drop 1:=by
 have hn:wordAt r 0≠[]:=by
  rcases xA ht afw with x|⟨_,s,x,_,hs⟩|⟨op',s,v,x,hop,_⟩
  .have:=congrArg (·.1) x;dsimp only at this;omega
  .have:=congrArg (λn:ak=>n.2.2.2.1) x;dsimp only at this;rw[this];exact hs
  .have:=congrArg (·.1) x;dsimp only at this;omega
 rw[Dh c];exact congrArg _ (AY hn)
theorem aj6{op:Int}{r:LS}(c:op=3\/op=4)(ht:dS (op,0,0,wordAt r 0,(aZ (wordAt (r.drop 1) 0)).1) 0=true):
 (gq op,())::r=ls (jD (op,0,0,wordAt r 0,(aZ (wordAt (r.drop 1) 0)).1))++(r.drop 1).drop 1:=by
 have hn:wordAt r 0≠[]/\(aZ (wordAt (r.drop 1) 0)).2=true/\bD (aZ (wordAt (r.drop 1) 0)).1=wordAt (r.drop 1) 0:=by
  rcases xA ht afw with x|⟨op',s,x,hop,hs⟩|⟨op',s,v,x,hop,hs,hv,h1⟩
  .have:=congrArg (·.1) x;dsimp only at this;omega
  .have:=congrArg (·.1) x;dsimp only at this;omega
  .have x1:=congrArg (λn:ak=>n.2.2.2.1) x;have x2:=congrArg (λn:ak=>n.2.2.2.2) x;dsimp only at x1 x2;refine⟨by rw[x1];exact hs,ZC (by rw[x2];exact hv) (by rw[x2];exact h1)⟩
 have hw2:wordAt (r.drop 1) 0≠[]:=λe0=>by
  rw[e0]at hn;have:(aZ []).2=false:=by unfold aZ;rw[ZB];rfl
  rw[this]at hn;cases hn.2.1
 have e3:r=(wordAt r 0,())::(wordAt (r.drop 1) 0,())::(r.drop 1).drop 1:=by rw[← AY hw2];exact AY hn.1
 rw[FH c,hn.2.2];exact congrArg _ e3
theorem Ya:∀(d:Nat)(w:LS)(q:List ak),(rs d w q).2≠0->∃t,xw t/\(rs d w q).1=q++post t q.length/\0<(rs d w q).2/\(zo t->∃rest,w=ls (aI t)++rest/\(rs d w q).2=((aI t).length:Int))
 |0,w,q,h=>(h rfl).elim
 |d+1,w,q,h=>by
  by_cases h0:dG (wordAt w 0)=0
  .rw[rs,h0]at h;exact(h rfl).elim
  obtain⟨r,e,e2⟩:=X6 h0;rcases Ae (wordAt w 0)with c|⟨c,_⟩
  .exact(h0 c).elim
  have w1:wordAt w 1=wordAt r 0:=by rw[e];exact Kz _ _
  have w2:wordAt w 2=wordAt (r.drop 1) 0:=by rw[e];exact adv _ _
  have wd:∀n:Nat,w.drop (1+(n:Int)).toNat=r.drop n:=λn=>by rw[e,show(1+(n:Int)).toNat=n+1 from abn,ayp]
  rw[rs]at h ⊢;rw[e2,w1,w2]at h ⊢;generalize dG (wordAt w 0)=op at h c e h0 ⊢;cases hq:decide ((q.length:Int)>9)with
  |true=>rw[hq,ayo]at h;exact(h rfl).elim
  |false=>
  rw[hq,show(op==0)=false from avp.2 h0]at h;rw[show(op==0)=false from avp.2 h0];have TT:op=2\/op=8\/op=9->∃t,xw t/\q++[(op,0,0,wordAt r 0,0,0,[],())]=q++post t q.length/\(0:Int)<2/\(zo t->∃rest,w=ls (aI t)++rest/\(2:Int)=((aI t).length:Int)):=λc=>
   ⟨.leaf (op,0,0,wordAt r 0,0,0,[],()),(show op=1\/op=2\/op=3\/op=4\/op=8\/op=9 from abn),rfl,abA,λht=>⟨r.drop 1,e.trans (aj3 c ht),by show _=((jD _).length:Int);rw[Dh c];rfl⟩⟩
  have adu:op=3\/op=4->∃t,xw t/\q++[(op,0,0,wordAt r 0,(aZ (wordAt (r.drop 1) 0)).1)]=q++post t q.length/\(0:Int)<3/\(zo t->∃rest,w=ls (aI t)++rest/\(3:Int)=((aI t).length:Int)):=λc=>
   ⟨.leaf (op,0,0,wordAt r 0,(aZ (wordAt (r.drop 1) 0)).1),(show op=1\/op=2\/op=3\/op=4\/op=8\/op=9 from abn),rfl,abA,λht=>⟨(r.drop 1).drop 1,e.trans (aj6 c ht),by show _=((jD _).length:Int);rw[FH c];rfl⟩⟩
  have ai9:(op=6\/op=7)->(rs d r q).2≠0->(rs d (w.drop (1+(rs d r q).2).toNat) (rs d r q).1).2≠0->
   ∃t,xw t/\(rs d (w.drop (1+(rs d r q).2).toNat) (rs d r q).1).1++[(op,((rs d r q).1.length:Int)-1,((rs d (w.drop (1+(rs d r q).2).toNat) (rs d r q).1).1.length:Int)-1,[],0,0,[],())]=q++post t q.length/\
    0<1+(rs d r q).2+(rs d (w.drop (1+(rs d r q).2).toNat) (rs d r q).1).2/\(zo t->∃rest,w=ls (aI t)++rest/\1+(rs d r q).2+(rs d (w.drop (1+(rs d r q).2).toNat) (rs d r q).1).2=((aI t).length:Int)):=λc g1 g2=>by
   obtain⟨x,x1,x2,x3,x4⟩:=Ya d r q g1;obtain⟨y,y1,y2,y3,y4⟩:=Ya d _ _ g2;have lx:(rs d r q).1.length=q.length+x.size:=by rw[x2,avn,eH]
   have ly:(rs d (w.drop (1+(rs d r q).2).toNat) (rs d r q).1).1.length=q.length+x.size+y.size:=by rw[y2,avn,eH,lx]
   refine⟨.two op x y,⟨c,x1,y1⟩,?_,abn,λht=>?_⟩
   .rw[ly,lx,y2,lx,x2];show _=q++(post x q.length++(post y (q.length+x.size)++[_]));rw[avE,avE]
   .obtain⟨t1,t2⟩:zo x/\zo y:=ht;obtain⟨r1,q1,q2⟩:=x4 t1;obtain⟨r2,q3,q4⟩:=y4 t2;have e4:w.drop (1+(rs d r q).2).toNat=r1:=by rw[q2,wd,q1];exact List.drop_left' asR
    refine⟨r2,?_,?_⟩
    .rw[e];show _=ls (gq op::(aI x++aI y))++_;rw[aja];refine congrArg _ (q1.trans (congrArg _ ?_));rw[← q3];exact e4.symm
    .rw[q4,q2];show _=(((gq op::(aI x++aI y)).length:Nat):Int);rw[avq,avn];omega
  rcases c with rfl|rfl|rfl|rfl|rfl|rfl|rfl|rfl|rfl
  .refine⟨.leaf (1,0,0,[],0,0,[],()),.inl rfl,rfl,(by show(0:Int)<1;decide),λ_=>⟨r,e,rfl⟩⟩
  .exact TT (.inl rfl)
  .exact adu (.inl rfl)
  .exact adu (.inr rfl)
  .have h:(bif (rs d r q).2==0 then((rs d r q).1,0)else(_,1+(rs d r q).2):List ak×Int).2≠0:=h;cases g:(rs d r q).2==0 with
   |true=>rw[g]at h;exact(h rfl).elim
   |false=>
    obtain⟨x,x1,x2,x3,x4⟩:=Ya d r q (avp.1 g);have lx:(rs d r q).1.length=q.length+x.size:=by rw[x2,avn,eH]
    refine⟨.neg x,x1,?_,?_,λht=>?_⟩
    .show(rs d r q).1++[(5,((rs d r q).1.length:Int)-1,0,[],0,0,[],())]=q++(post x q.length++[_]);rw[lx,x2,avE]
    .show 0<1+(rs d r q).2;omega
    .obtain⟨r1,q1,q2⟩:=x4 ht;refine⟨r1,e.trans (congrArg _ q1),?_⟩;show 1+(rs d r q).2=((gq 5::aI x).length:Int);rw[q2,avq];omega
  .have h:(bif (rs d r q).2==0 then((rs d r q).1,0)else bif (rs d (w.drop (1+(rs d r q).2).toNat) (rs d r q).1).2==0 then(_,0)else(_,_):List ak×Int).2≠0:=h;cases g:(rs d r q).2==0 with
   |true=>rw[g]at h;exact(h rfl).elim
   |false=>
    rw[g]at h;cases g2:(rs d (w.drop (1+(rs d r q).2).toNat) (rs d r q).1).2==0 with
    |true=>rw[g2]at h;exact(h rfl).elim
    |false=>exact ai9 (.inl rfl) (avp.1 g) (avp.1 g2)
  .have h:(bif (rs d r q).2==0 then((rs d r q).1,0)else bif (rs d (w.drop (1+(rs d r q).2).toNat) (rs d r q).1).2==0 then(_,0)else(_,_):List ak×Int).2≠0:=h;cases g:(rs d r q).2==0 with
   |true=>rw[g]at h;exact(h rfl).elim
   |false=>
    rw[g]at h;cases g2:(rs d (w.drop (1+(rs d r q).2).toNat) (rs d r q).1).2==0 with
    |true=>rw[g2]at h;exact(h rfl).elim
    |false=>exact ai9 (.inr rfl) (avp.1 g) (avp.1 g2)
  .exact TT (.inr (.inl rfl))
  .exact TT (.inr (.inr rfl))
end Sp
namespace Sp
open Go
def bY:Nat->List ak->Int->List Bytes
 |0,_,_=>[]
 |k+1,q,i=>
  bif (nodeAt q i.toNat).1==5 then gq (nodeAt q i.toNat).1::bY k q (nodeAt q i.toNat).2.1
  else bif (nodeAt q i.toNat).1==6||(nodeAt q i.toNat).1==7 then gq (nodeAt q i.toNat).1::(bY k q (nodeAt q i.toNat).2.1++bY k q (nodeAt q i.toNat).2.2.1)
  else jD (nodeAt q i.toNat)
def textOf(q:List ak):Bytes:=bif ay q then Lib.join (bY 9 q ((q.length:Int)-1)) [32]else[]
theorem Di(l r:List ak)(n:ak):nodeAt (l++(n::r)) l.length=n:=by unfold nodeAt;rw[avr,av1 (avt _),axJ];rfl
theorem Ol:∀(t:QT)(k:Nat)(l r:List ak),xw t->t.size<=k->bY k (l++(post t l.length++r)) (((l.length+t.size:Nat):Int)-1)=aI t
 |t,0,_,_,_,h=>absurd (size_pos t) abn
 |.leaf n,k+1,l,r,hw,_=>by
  have hw:n.1=1\/n.1=2\/n.1=3\/n.1=4\/n.1=8\/n.1=9:=hw;show bY (k+1) (l++(n::r)) (((l.length+1:Nat):Int)-1)=jD n;rw[bY,show((((l.length+1:Nat):Int)-1).toNat)=l.length from abn,Di];rw[show(n.1==5)=false from avp.2 abn,show(n.1==6)=false from avp.2 abn,show(n.1==7)=false from avp.2 abn];rfl
 |.neg t,k+1,l,r,hw,hk=>by
  have hk:t.size+1<=k+1:=hk;have ih:=Ol t k l ((5,((l.length+t.size:Nat):Int)-1,0,[],0,0,[],())::r) hw abn;have e:l++(post (.neg t) l.length++r)=l++(post t l.length++(((5,((l.length+t.size:Nat):Int)-1,0,[],0,0,[],()):ak)::r)):=by show l++((post t l.length++[_])++r)=_;rw[avE];rfl
  have en:nodeAt (l++(post (.neg t) l.length++r)) (l.length+t.size)=(5,((l.length+t.size:Nat):Int)-1,0,[],0,0,[],()):=by rw[e,← avE,show l.length+t.size=(l++post t l.length).length by rw[avn,eH]];exact Di _ _ _
  rw[bY,show((((l.length+(QT.neg t).size:Nat):Int)-1).toNat)=l.length+t.size by show(((l.length+(t.size+1):Nat):Int)-1).toNat=_;omega,en,e];show gq 5::bY k _ _=gq 5::aI t;rw[ih]
 |.two op x y,k+1,l,r,⟨c,w1,w2⟩,hk=>by
  have hk:x.size+y.size+1<=k+1:=hk;generalize hn:((op,((l.length+x.size:Nat):Int)-1,((l.length+x.size+y.size:Nat):Int)-1,[],0,0,[],()):ak)=N;have e:l++(post (.two op x y) l.length++r)=l++(post x l.length++(post y (l.length+x.size)++(N::r))):=by show l++((post x l.length++(post y (l.length+x.size)++[_]))++r)=_;rw[hn,avE,avE];rfl
  have i1:=Ol x k l (post y (l.length+x.size)++(N::r)) w1 abn;have i2:=Ol y k (l++post x l.length) (N::r) w2 abn;rw[avn,eH,avE]at i2;have en:nodeAt (l++(post (.two op x y) l.length++r)) (l.length+x.size+y.size)=N:=by rw[e,← avE,← avE,show l.length+x.size+y.size=((l++post x l.length)++post y (l.length+x.size)).length by rw[avn,avn,eH,eH]];exact Di _ _ _
  rw[bY,show((((l.length+(QT.two op x y).size:Nat):Int)-1).toNat)=l.length+x.size+y.size by show(((l.length+(x.size+y.size+1):Nat):Int)-1).toNat=_;omega,en,e];subst hn;dsimp only;rw[i1,i2];rcases c with rfl|rfl<;>rfl
theorem IE{n:ak}(a:Int)(hw:n.1=1\/n.1=2\/n.1=3\/n.1=4\/n.1=8\/n.1=9):dS n a=dS n 0:=by obtain⟨op,l,r,s,v⟩:=n;dsimp only at hw;rcases hw with rfl|rfl|rfl|rfl|rfl|rfl<;>rfl
theorem adw:∀(t:QT)(b:Nat),xw t->(∀n∈post t b,∃a,dS n a=true)->zo t
 |.leaf n,_,hw,h=>by
  obtain⟨a,ha⟩:=h n avA;show dS n 0=true;rw[← IE a hw];exact ha
 |.neg t,b,hw,h=>adw t b hw λn hn=>h n (awg _ hn)
 |.two op x y,b,⟨_,w1,w2⟩,h=>⟨adw x b w1 λn hn=>h n (awg _ hn),adw y _ w2 λn hn=>h n (awz _ (awg _ hn))⟩
theorem KI{t:QT}(hw:xw t)(h:ay (post t 0)=true):zo t/\t.size<=9:=by refine⟨adw t 0 hw λn hn=>?_,by have:=(gW h).2;rwa [eH]at this⟩;obtain⟨i,hi,e⟩:=awS hn;refine⟨i,?_⟩;have:=(jL h hi).1;unfold nodeAt at this;rw[avr,avv hi,e]at this;exact this
theorem ajb:∀t:QT,∃x r,aI t=x::r/\x≠[]
 |.leaf n=>⟨_,_,rfl,amc _⟩
 |.neg t=>⟨_,_,rfl,amc _⟩
 |.two op x y=>⟨_,_,rfl,amc _⟩
where amc (op:Int):gq op≠[]:=by unfold gq;cases op==1<;>cases op==2<;>cases op==3<;>cases op==4<;>cases op==5<;>cases op==6<;>cases op==7<;>cases op==8<;>cases op==9<;>intro h<;>cases h
theorem af5{t:QT}(hw:xw t)(h:ay (post t 0)=true):textOf (post t 0)=Lib.join (aI t) [32]/\textOf (post t 0)≠[]:=by
 obtain⟨_,hs⟩:=KI hw h;have e:textOf (post t 0)=Lib.join (aI t) [32]:=by unfold textOf;rw[h,eH];have:=Ol t 9 [] [] hw hs;rw[avU,awo,avu,avV]at this;show Lib.join (bY 9 (post t 0) ((t.size:Int)-1)) [32]=_;rw[this]
 refine⟨e,?_⟩;obtain⟨x,r,ew,hx⟩:=ajb t;rw[e,ew,Lib.join_cons];intro h0;exact hx (awj.1 h0).1
def wZ(w:LS):Bool×LS×List ak:=rd (w.length+1) w []
def gB(s:Bytes):Bool:=jA s&&((wZ (wordsOf s)).1&&(!decide (((wZ (wordsOf s)).2.1.length:Int)>0)&&ay (wZ (wordsOf s)).2.2))
def fU(s:Bytes):List ak:=bif gB s then(wZ (wordsOf s)).2.2 else[]
def X7(s:Bytes):Bool:=jA s&&((rs 10 (wordsOf s) []).2==((wordsOf s).length:Int)&&(!(textOf (rs 10 (wordsOf s) []).1==[])&&textOf (rs 10 (wordsOf s) []).1==gy (wordsOf s)))
theorem aiS(w:List Bytes):(ls w).map (·.1)=w:=by unfold ls;rw[awW];exact List.map_id' w
theorem TV(s:Bytes):gB s=true↔jA s=true/\∃t,xw t/\ay (post t 0)=true/\wordsOf s=ls (aI t):=by
 unfold gB;rw[avo,avo,avo,aw5,av7];refine aw6 λ_=>⟨λ⟨h1,h2,h3⟩=>?_,λ⟨t,hw,hq,e⟩=>?_⟩
 .obtain⟨t,hw,e,h⟩:=X9 _ _ _ h1;have e:(wZ (wordsOf s)).2.2=post t 0:=e;rw[e]at h3;have hr:(wZ (wordsOf s)).2.1=[]:=awm.1 abn;have h:zo t->wordsOf s=ls (aI t)++(wZ (wordsOf s)).2.1:=h;exact⟨t,hw,h3,by rw[h (KI hw h3).1,hr,avU]⟩
 .have e1:=MH t ((wordsOf s).length+1) [] [] hw (KI hw hq).1 (by rw[avU,← e];exact aw9 _);rw[avU,← e]at e1;have e1:wZ (wordsOf s)=(true,[],post t 0):=e1;rw[e1];exact⟨rfl,(by show ¬((0:Nat):Int)>0;decide),hq⟩
theorem ajc{s:Bytes}{t:QT}(hw:xw t)(hq:ay (post t 0)=true)(e:wordsOf s=ls (aI t)):wZ (wordsOf s)=(true,[],post t 0):=by have e1:=MH t ((wordsOf s).length+1) [] [] hw (KI hw hq).1 (by rw[avU,← e];exact aw9 _);rw[avU,← e]at e1;exact e1
theorem apG{s:Bytes}{t:QT}(hw:xw t)(hq:ay (post t 0)=true)(e:wordsOf s=ls (aI t)):rs 10 (wordsOf s) []=(post t 0,((wordsOf s).length:Int)):=by obtain⟨ho,hs⟩:=KI hw hq;have e1:=TU t 10 [] [] hw ho abn (by rw[avu];omega);rw[avU,← e]at e1;rw[e1,e];unfold ls;rw[avI];rfl
theorem ac9(s:Bytes):X7 s=gB s:=by
 rw[av3,TV];unfold X7;rw[avo,avo,avo,aw5,avS,avS,avp];refine aw6 λ_=>⟨λ⟨h1,h2,h3⟩=>?_,λ⟨t,hw,hq,e⟩=>?_⟩
 .have hq:ay (rs 10 (wordsOf s) []).1=true:=by
   cases h:ay (rs 10 (wordsOf s) []).1 with
   |true=>rfl
   |false=>unfold textOf at h2;rw[h]at h2;exact(h2 rfl).elim
  by_cases h0:(rs 10 (wordsOf s) []).2=0
  .have:wordsOf s=[]:=awm.1 abn;rw[this]at hq;exact absurd hq abA
  obtain⟨t,hw,e,hk,h⟩:=Ya _ _ _ h0;have e:(rs 10 (wordsOf s) []).1=post t 0:=e;rw[e]at hq;obtain⟨rest,q1,q2⟩:=h (KI hw hq).1;refine⟨t,hw,hq,?_⟩;rw[h1]at q2;have hl:=congrArg List.length q1;rw[avn]at hl;have h3:(ls (aI t)).length=(aI t).length:=asR;have hr:rest=[]:=awm.1 abn;rw[q1,hr,avU]
 .obtain⟨q1,q2⟩:=af5 hw hq;rw[apG hw hq e];refine⟨rfl,q2,q1.trans ?_⟩;unfold gy;rw[e,aiS]
theorem Ti{s:Bytes}(h:gB s=true):(rs 10 (wordsOf s) []).1=(wZ (wordsOf s)).2.2/\fU s=(wZ (wordsOf s)).2.2/\ay (fU s)=true:=by
 obtain⟨_,t,hw,hq,e⟩:=(TV s).1 h;have e2:fU s=(wZ (wordsOf s)).2.2:=by unfold fU;rw[h];rfl
 rw[apG hw hq e,e2,ajc hw hq e];exact⟨rfl,rfl,hq⟩
end Sp
namespace Sp
open Go
def aoY:Bytes:=[99,114,101,97,116,101]
def aoZ:Bytes:=[117,112,100,97,116,101]
def ao0:Bytes:=[100,101,108,101,116,101]
def ao1:Bytes:=[100,101,102,105,110,101]
def amd:Bytes:=[117,110,100,101,102,105,110,101]
def QG:Bytes->Bytes->LS
 |cur,[]=>[(cur,())]
 |cur,b::l=>bif b==10 then(cur,())::QG [] l else QG (cur++[b]) l
end Sp
namespace Sp
open Go
def fine(x:Bytes):Prop:=TS x/\x.all l7=true
theorem Ji{n:Int}(h:eu n=true):fine (Lib.itoa n):=by refine⟨adt h,?_⟩;rw[avL];intro b hb;have:=(iC h).2.2.1 b hb;exact Ad.2 abn
theorem akO:∀r:List Bytes,(∀x∈r,x.all l7=true)->(Lib.joinTail [32] r).all l7=true
 |[],_=>rfl
 |x::r,h=>by
  have e:Lib.joinTail [32] (x::r)=[32]++(x++Lib.joinTail [32] r):=by simp[Lib.joinTail]
  rw[e,axY,axY,h x avA,akO r λy hy=>h y (avy _ hy)];decide
theorem akP:∀ws:List Bytes,(∀x∈ws,x.all l7=true)->(Lib.join ws [32]).all l7=true
 |[],_=>rfl
 |x::r,h=>by rw[Lib.join_cons,axY,h x avA,akO r λy hy=>h y (avy _ hy)];rfl
theorem adx{ws:List Bytes}(h:∀x∈ws,fine x)(hl:(Lib.join ws [32]).length<=600)(hc:ws.length<=24):jA (Lib.join ws [32])=true/\wordsOf (Lib.join ws [32])=ws.map (·,()):=by have hs:∀x∈ws,TS x:=λx hx=>(h x hx).1;refine⟨qI.2 ⟨hl,akP ws λx hx=>(h x hx).2,by rw[Zz ws hs];exact hc⟩,ai5 ws hs⟩
theorem abk{n:Int}(h:eu n=true):(Lib.itoa n).length<=10:=(iC h).2.2.2.2
end Sp
namespace Sp
open Go
theorem akQ{l:List bC}{i:Nat}(hi:i<l.length):dm l i∈l:=by unfold dm;rw[avr,avv hi];exact awV hi
theorem aqp{l:List bC}{y:bC}(hy:y∈l):∃i,i<l.length/\dm l i=y:=by obtain⟨i,hi,e⟩:=awS hy;exact⟨i,hi,by unfold dm;rw[avr,avv hi];exact e⟩
theorem KA{d:List bC}:ni d=true↔(∀x∈d,aW x.1=true/\ay x.2.1=true)/\(d.Pairwise λx y=>Op.bytesLess x.1 y.1=true)/\d.length<=5:=by
 have one:∀i,kK d i=true↔(aW (dm d i).1=true/\ay (dm d i).2.1=true)/\(0<i->Op.bytesLess (dm d (i-1)).1 (dm d i).1=true):=λi=>by
  unfold kK;rw[avo,avo];refine aw6 λ_=>?_;by_cases h0:0<i
  .rw[avD h0];simp[h0]
  .rw[avH h0];simp[h0]
 unfold ni;rw[avo,show(ji d.length (kK d)=true)↔∀i,i<d.length->kK d i=true from by unfold ji;rw[avL];exact⟨λh i hi=>h i (awh.2 hi),λh i hi=>h i (awh.1 hi)⟩,avC];constructor
 .rintro⟨h,hl⟩;refine⟨λx hx=>?_,?_,abn⟩
  .obtain⟨i,hi,rfl⟩:=aqp hx;exact((one i).1 (h i hi)).1
  .exact abj (R:=λx y:bC=>Op.bytesLess x.1 y.1=true) (λa b c h1 h2=>TP _ _ _ h1 h2) ([],[],()) d λi hi=>((one (i+1)).1 (h (i+1) hi)).2 abn
 .rintro⟨h1,h2,hl⟩;refine⟨λi hi=>(one i).2 ⟨h1 _ (akQ hi),λh0=>?_⟩,abn⟩;have e:∀k(hk:k<d.length),dm d k=d[k]:=λk hk=>by unfold dm;rw[avr,avv hk];rfl
  rw[e i hi,e (i-1) abn];exact axx.1 h2 (i-1) i abn hi abn
def GV(x:AU):aU:=(x.2.1,x.2.2.1,x.2.2.2.1,x.2.2.2.2.1,x.2.2.2.2.2.1,())
def afc(x:AU):Int:=x.2.2.2.2.2.2.1
def IG(x:AU):bC:=(x.2.2.2.2.2.2.2.1,x.2.2.2.2.2.2.2.2.1,())
end Sp
namespace Sp
open Go
def Jj(a:bg):Bool:=dD a.1&&(bJ a.2.1 a.2.2.1 a.2.2.2.1&&!(a.2.1==0))
def CJ(f:aU):Bool:=f.2.2.2.2.1.all Jj&&(eu f.1&&(eu f.2.1&&eu f.2.2.2.1))
def dX:List bg->List Bytes
 |[]=>[]
 |a::r=>a.1::bD a.2::dX r
def jC(f:aU):List Bytes:=Lib.itoa f.2.1::(bif f.2.2.1 then[115]else[111])::Lib.itoa f.2.2.2.1::dX f.2.2.2.2.1
def noF:aU:=(0,0,false,0,[],())
def anJ(q:List ak):Bool:=ay q&&decide (fU (textOf q)=q)
def ame(x:AU):Bool:=(IG x).1==[]&&(IG x).2.1.isEmpty
def ao2(x:AU):List Bytes:=
 bif x.1==1&&(CJ (GV x)&&((GV x).1==0&&(afc x==0&&ame x)))then aoY::jC (GV x)
 else bif x.1==2&&(CJ (GV x)&&(afc x==0&&ame x))then aoZ::Lib.itoa (GV x).1::jC (GV x)
 else bif x.1==3&&(decide (GV x=noF)&&(eu (afc x)&&ame x))then[ao0,Lib.itoa (afc x)]
 else bif x.1==4&&(decide (GV x=noF)&&(afc x==0&&(aW (IG x).1&&anJ (IG x).2.1)))then ao1::(IG x).1::bY 9 (IG x).2.1 (((IG x).2.1.length:Int)-1)
 else bif x.1==5&&(decide (GV x=noF)&&(afc x==0&&(aW (IG x).1&&(IG x).2.1.isEmpty)))then[amd,(IG x).1]
 else[]
def af6(x:AU):Bytes:=Lib.join (ao2 x) [32]
theorem kX{s:Bytes}(h:dD s=true):aW s=true:=by unfold dD at h;unfold aW;rw[avo,avo,avC,avC]at h ⊢;exact⟨h.1,abn⟩
theorem tq{s:Bytes}(h:aW s=true):fine s:=by refine⟨aj2 h,?_⟩;unfold aW lower at h;rw[avo,avo,avL]at h;rw[avL];intro b hb;have:=h.1.1 b hb;rw[avo,avC,avC]at this;rw[Ad];omega
theorem ajd{v:Ed}(h:bJ v.1 v.2.1 v.2.2.1=true)(h0:v.1≠0):fine (bD v):=by
 unfold bD;rw[h];rcases ama h h0 with⟨n,rfl,a,b⟩|⟨s,rfl,a⟩
 .exact Ji (by unfold eu;rw[avD a,avD (show n<=1000000000 from abn)];rfl)
 .exact tq a
theorem GX{a:bg}:Jj a=true↔dD a.1=true/\bJ a.2.1 a.2.2.1 a.2.2.2.1=true/\a.2.1≠0:=by unfold Jj;rw[avo,avo,aw5,avp]
theorem xu{f:aU}:CJ f=true↔(∀a∈f.2.2.2.2.1,Jj a=true)/\eu f.1=true/\eu f.2.1=true/\eu f.2.2.2.1=true:=by unfold CJ;rw[avo,avo,avo,avL]
theorem ady:∀as:List bg,(∀a∈as,Jj a=true)->∀y∈dX as,fine y
 |[],_,y,hy=>asK
 |a::r,h,y,hy=>by
  obtain⟨h1,h2,h3⟩:=GX.1 (h a avA);rcases avF.1 hy with rfl|hy
  .exact tq (kX h1)
  rcases avF.1 hy with rfl|hy
  .exact ajd h2 h3
  .exact ady r (λb hb=>h b (avy _ hb)) y hy
theorem aqr(b:Bool):fine (bif b then[115]else[111]):=by cases b<;>exact⟨⟨abA,abA⟩,abA⟩
theorem anK{f:aU}(h:CJ f=true):∀y∈jC f,fine y:=by
 obtain⟨h1,h2,h3,h4⟩:=xu.1 h;intro y hy;rcases avF.1 hy with rfl|hy
 .exact Ji h3
 rcases avF.1 hy with rfl|hy
 .exact aqr _
 rcases avF.1 hy with rfl|hy
 .exact Ji h4
 .exact ady _ h1 y hy
theorem anL{n:ak}(h:dS n 0=true)(hw:n.1=1\/n.1=2\/n.1=3\/n.1=4\/n.1=8\/n.1=9):n.1=1\/fine n.2.2.2.1:=by
 obtain⟨op,l,r,s,k,m,t,⟨⟩⟩:=n;dsimp only at hw ⊢;rcases hw with rfl|rfl|rfl|rfl|rfl|rfl
 .exact .inl rfl
 .have h:((l==0&&r==0)&&(k==0&&(m==0&&t==[]))&&dD s)=true:=h;rw[avo]at h;exact .inr (tq (kX h.2))
 .have h:((l==0&&r==0)&&dD s&&bJ k m t&&!(k==0))=true:=h;rw[avo,avo,avo]at h;exact .inr (tq (kX h.1.1.2))
 .have h:((l==0&&r==0)&&dD s&&bJ k m t&&k==1)=true:=h;rw[avo,avo,avo]at h;exact .inr (tq (kX h.1.1.2))
 .have h:((l==0&&r==0)&&(k==0&&(m==0&&t==[]))&&aW s)=true:=h;rw[avo]at h;exact .inr (tq h.2)
 .have h:((l==0&&r==0)&&(k==0&&(m==0&&t==[]))&&aW s)=true:=h;rw[avo]at h;exact .inr (tq h.2)
theorem MI(op:Int):fine (gq op):=by unfold gq;cases op==1<;>cases op==2<;>cases op==3<;>cases op==4<;>cases op==5<;>cases op==6<;>cases op==7<;>cases op==8<;>cases op==9<;>exact⟨⟨abA,abA⟩,abA⟩
theorem Ef:∀t:QT,xw t->zo t->∀y∈aI t,fine y
 |.leaf n,hw,ho,y,hy=>by
  have hg:=anL ho hw;have hy:y∈jD n:=hy;rcases xA ho hw with rfl|⟨op,s,rfl,c,hs⟩|⟨op,s,v,rfl,c,hs,hv,h0⟩
  .have:y=gq 1:=avP.1 hy;rw[this];exact MI 1
  .rw[Dh c]at hy;rcases avF.1 hy with rfl|hy
   .exact MI op
   .rw[avP.1 hy];exact hg.resolve_left afw
  .rw[FH c]at hy;rcases avF.1 hy with rfl|hy
   .exact MI op
   rcases avF.1 hy with rfl|hy
   .exact hg.resolve_left afw
   .rw[avP.1 hy];exact ajd hv h0
 |.neg t,hw,ho,y,hy=>by
  rcases avF.1 (show y∈gq 5::aI t from hy)with rfl|hy
  .exact MI 5
  .exact Ef t hw ho y hy
 |.two op a b,⟨_,w1,w2⟩,⟨o1,o2⟩,y,hy=>by
  rcases avF.1 (show y∈gq op::(aI a++aI b)from hy)with rfl|hy
  .exact MI op
  rcases avR.1 hy with hy|hy
  .exact Ef a w1 o1 y hy
  .exact Ef b w2 o2 y hy
end Sp
namespace Sp
open Go
def iL:LS->List bg
 |[]=>[]
 |[x]=>[(x.1,(aZ []).1)]
 |x::y::r=>(x.1,(aZ y.1).1)::iL r
def uN:LS->Bool
 |[]=>true
 |[_]=>true
 |_::y::r=>(aZ y.1).2&&uN r
def Dc(id:Int)(r:LS):aU:=(id,numAt r 0,wordAt r 1==[115],numAt r 2,iL (r.drop 3),())
def jB(w:LS):aU×Bool:=
 bif decide ((w.length:Int)<4)||!(w.length%2==0)then(noF,false)
 else(Dc (numAt w 0) (w.drop 1),(bf (wordAt w 0)&&(bf (wordAt w 1)&&bf (wordAt w 3)))&&uN (w.drop 4))
theorem KC:∀as:List bg,(∀a∈as,Jj a=true)->iL (ls (dX as))=as/\uN (ls (dX as))=true/\(dX as).length=2*as.length
 |[],_=>⟨rfl,rfl,rfl⟩
 |a::r,h=>by
  obtain⟨h1,h2,h3⟩:=GX.1 (h a avA);obtain⟨i1,i2,i3⟩:=KC r λb hb=>h b (avy _ hb);have e:=O5 (v:=a.2) h2 h3;refine⟨?_,?_,?_⟩
  .show(a.1,(aZ (bD a.2)).1)::iL (ls (dX r))=_;rw[e,i1]
  .show((aZ (bD a.2)).2&&uN (ls (dX r)))=true;rw[e,i2];rfl
  .show(dX r).length+1+1=2*(r.length+1);omega
theorem word2(x:Bytes×Unit)(y:Bytes×Unit)(r:LS):wordAt (x::y::r) 1=y.1:=by rw[Kz,eY]
theorem apI(x y z:Bytes×Unit)(r:LS):wordAt (x::y::z::r) 2=z.1:=by rw[show(2:Int)=1+1 from rfl,Ee _ _ 1 abA,word2]
theorem asx(x y z u:Bytes×Unit)(r:LS):wordAt (x::y::z::u::r) 3=u.1:=by rw[show(3:Int)=2+1 from rfl,Ee _ _ 2 abA,apI]
theorem af7{f:aU}(h:CJ f=true)(id:Int):Dc id (ls (jC f))=(id,f.2):=by
 obtain⟨h1,h2,h3,h4⟩:=xu.1 h;obtain⟨i0,o,s,l,as,⟨⟩⟩:=f;have e0:numAt (ls (jC (i0,o,s,l,as,()))) 0=o:=by show parseNum (wordAt ((Lib.itoa o,())::_) 0)=o;rw[eY];exact(pG h3).2
 have e1:(wordAt (ls (jC (i0,o,s,l,as,()))) 1==[115])=s:=by show(wordAt ((Lib.itoa o,())::((bif s then[115]else[111]),())::_) 1==[115])=s;rw[word2];cases s<;>rfl
 have e2:numAt (ls (jC (i0,o,s,l,as,()))) 2=l:=by show parseNum (wordAt ((Lib.itoa o,())::((bif s then[115]else[111]),())::(Lib.itoa l,())::_) 2)=l;rw[apI];exact(pG h4).2
 have e3:iL ((ls (jC (i0,o,s,l,as,()))).drop 3)=as:=(KC as h1).1;unfold Dc;rw[e0,e1,e2,e3]
theorem amf{f:aU}(h:CJ f=true):jB ((Lib.itoa f.1,())::ls (jC f))=(f,true):=by
 obtain⟨h1,h2,h3,h4⟩:=xu.1 h;obtain⟨_,a2,a3⟩:=KC _ h1;have hl:((Lib.itoa f.1,())::ls (jC f)).length=4+2*f.2.2.2.2.1.length:=by show((Lib.itoa f.1,())::((Lib.itoa f.2.1,())::((bif f.2.2.1 then[115]else[111]),())::(Lib.itoa f.2.2.2.1,())::ls (dX f.2.2.2.2.1))).length=_;rw[avq,avq,avq,avq];unfold ls;rw[avI];omega
 have e0:wordAt ((Lib.itoa f.1,())::ls (jC f)) 0=Lib.itoa f.1:=eY _ _;have e1:wordAt ((Lib.itoa f.1,())::ls (jC f)) 1=Lib.itoa f.2.1:=word2 _ _ _;have e3:wordAt ((Lib.itoa f.1,())::ls (jC f)) 3=Lib.itoa f.2.2.2.1:=asx _ _ _ _ _;have ev:uN (((Lib.itoa f.1,())::ls (jC f)).drop 4)=true:=a2;have ef:Dc (numAt ((Lib.itoa f.1,())::ls (jC f)) 0) (((Lib.itoa f.1,())::ls (jC f)).drop 1)=f:=by show Dc (numAt _ 0) (ls (jC f))=f;rw[af7 h];unfold numAt;rw[e0,(pG h2).2]
 unfold jB;rw[hl,e0,e1,e3,ev,ef,(pG h2).1,(pG h3).1,(pG h4).1,avH abn,show((4+2*f.2.2.2.2.1.length)%2==0)=true from avS.2 abn];rfl
def passes(x:AU)(w:LS):Prop:=af6 x≠[]/\af6 x=gy w
end Sp
namespace Sp
open Go
def dB(b:UInt8):Bytes->Bytes->LS
 |cur,[]=>[(cur,())]
 |cur,x::l=>bif x==b then(cur,())::dB b [] l else dB b (cur++[x]) l
def pieces(b:UInt8)(s:Bytes):LS:=dB b [] s
theorem Xy:∀(l cur:Bytes),dB 10 cur l=QG cur l
 |[],_=>rfl
 |x::l,cur=>by
  show(bif x==10 then(cur,())::dB 10 [] l else dB 10 (cur++[x]) l)=bif x==10 then(cur,())::QG [] l else QG (cur++[x]) l
  rw[Xy l [],Xy l (cur++[x])]
theorem O6{b:UInt8}:∀(w cur l:Bytes),(∀x∈w,x≠b)->dB b cur (w++l)=dB b (cur++w) l
 |[],cur,l,_=>by rw[avU];rfl
 |x::w,cur,l,h=>by have hx:(x==b)=false:=avp.2 (h x avA);show(bif x==b then(cur,())::dB b [] (w++l)else dB b (cur++[x]) (w++l))=_;rw[hx];show dB b (cur++[x]) (w++l)=_;rw[O6 w (cur++[x]) l λy hy=>h y (avy _ hy),avE];rfl
theorem adz{b:UInt8}{w:Bytes}(h:∀x∈w,x≠b)(l:Bytes):pieces b (w++b::l)=(w,())::pieces b l:=by unfold pieces;rw[O6 w [] (b::l) h,awo];show(bif b==b then _ else _)=_;rw[awF];rfl
theorem ZE{b:UInt8}{w:Bytes}(h:∀x∈w,x≠b):pieces b w=[(w,())]:=by have:=O6 w [] [] h;rw[avU,awo]at this;exact this
theorem jG(x y:Bytes)(r:List Bytes):Lib.join (x::y::r) [32]=x++32::Lib.join (y::r) [32]:=by rw[Lib.join_cons,Lib.join_cons];show x++([32]++y++Lib.joinTail [32] r)=_;rw[avE];rfl
theorem ZF:∀(ws:List Bytes),ws≠[]->(∀w∈ws,∀x∈w,x≠32)->pieces 32 (Lib.join ws [32])=ls ws
 |[],h,_=>(h rfl).elim
 |[w],_,h=>by
  have e:Lib.join [w] [32]=w:=by rw[Lib.join_cons];exact avU w
  rw[e];exact ZE (h w avA)
 |w::y::r,_,h=>by rw[jG,adz (h w avA),ZF (y::r) acA λv hv=>h v (avy _ hv)];rfl
theorem MF(b:UInt8):∀(l cur:Bytes),0<(dB b cur l).length
 |[],_=>Nat.one_pos
 |x::l,cur=>by
  show 0<(bif x==b then(cur,())::dB b [] l else dB b (cur++[x]) l).length;cases x==b with
  |true=>exact awX _
  |false=>exact MF b l _
def fV:List bg->Bytes
 |[]=>[]
 |a::r=>32::(a.1++32::(bD a.2++fV r))
theorem TA:∀as:List bg,Lib.joinTail [32] (dX as)=fV as
 |[]=>rfl
 |a::r=>by show[32]++a.1++([32]++bD a.2++Lib.joinTail [32] (dX r))=_;rw[TA r];show _=32::(a.1++32::(bD a.2++fV r));simp
theorem anx{as:List bg}{n:Nat}(h:n<as.length):fV (as.take (n+1))=fV (as.take n)++32::((as.getD n ([],0,0,[],())).1++32::bD (as.getD n ([],0,0,[],())).2):=by
 induction as generalizing n with
 |nil=>exact absurd h (awv _)
 |cons a r ih=>
  cases n with
  |zero=>
   show 32::(a.1++32::(bD a.2++[]))=[]++32::(a.1++32::bD a.2);rw[avU];rfl
  |succ n=>
   have h:n<r.length:=by rw[avq]at h;omega
   show 32::(a.1++32::(bD a.2++fV (r.take (n+1))))=(32::(a.1++32::(bD a.2++fV (r.take n))))++_;rw[ih h];show _=32::(a.1++32::(bD a.2++fV (r.take n)))++32::((r.getD n ([],0,0,[],())).1++32::bD (r.getD n ([],0,0,[],())).2);simp
theorem afZ(f:aU):Lib.join (jC f) [32]=Lib.itoa f.2.1++32::((bif f.2.2.1 then[115]else[111])++32::(Lib.itoa f.2.2.2.1++fV f.2.2.2.2.1)):=by unfold jC;rw[jG,jG,Lib.join_cons,TA]
def kC:Bytes:=[102,105,108,101]
def gu(f:aU):Bytes:=Lib.join (kC::Lib.itoa f.1::jC f) [32]
end Sp
namespace Sp
open Go
theorem join_one(x:Bytes):Lib.join [x] [32]=x:=by rw[Lib.join_cons];exact avU x
theorem aje:∀(a:List Bytes)(y:Bytes)(b:List Bytes),a≠[]->Lib.join (a++y::b) [32]=Lib.join a [32]++32::Lib.join (y::b) [32]
 |[],_,_,h=>(h rfl).elim
 |[x],y,b,_=>by rw[join_one];exact jG x y b
 |x::z::a,y,b,_=>by show Lib.join (x::z::(a++y::b)) [32]=_;rw[jG,jG];have:=aje (z::a) y b acA;rw[show z::(a++y::b)=(z::a)++y::b from rfl,this,avE];rfl
theorem acZ(x:Bytes){a:List Bytes}(h:a≠[]):Lib.join [x,Lib.join a [32]] [32]=Lib.join (x::a) [32]:=by
 cases a with
 |nil=>exact(h rfl).elim
 |cons y r=>rw[jG,join_one,jG]
theorem ac0(x:Bytes){a b:List Bytes}(h:a≠[])(g:b≠[]):Lib.join [x,Lib.join a [32],Lib.join b [32]] [32]=Lib.join (x::(a++b)) [32]:=by
 cases a with
 |nil=>exact(h rfl).elim
 |cons y r=>
  cases b with
  |nil=>exact(g rfl).elim
  |cons z s=>have:=aje (y::r) z s acA;rw[jG,jG,join_one];show _=Lib.join (x::y::(r++z::s)) [32];rw[jG];show _=x++32::Lib.join ((y::r)++z::s) [32];rw[this]
theorem KF(k:Nat)(q:List ak)(i:Int):bY (k+1) q i≠[]:=by
 rw[bY];cases (nodeAt q i.toNat).1==5 with
 |true=>exact ayc _ _
 |false=>
  cases (nodeAt q i.toNat).1==6||(nodeAt q i.toNat).1==7 with
  |true=>exact ayc _ _
  |false=>exact ayc _ _
theorem afd{n:ak}{a:Int}(h:dS n a=true)(c:n.1=5):0<=n.2.1/\n.2.1<a:=by obtain⟨op,l,r,s,k,m,t,⟨⟩⟩:=n;have c:op=5:=c;subst c;have h:((decide (0<=l)&&decide (l<=a-1)&&decide (0<a))&&r==0&&(s==[]&&(k==0&&(m==0&&t==[]))))=true:=h;rw[avo,avo,avo,avo,avC,avC]at h;have h1:=h.1.1.1;dsimp only;omega
theorem afe{n:ak}{a:Int}(h:dS n a=true)(c:n.1=6\/n.1=7):(0<=n.2.1/\n.2.1<a)/\0<=n.2.2.1/\n.2.2.1<a:=by
 obtain⟨op,l,r,s,k,m,t,⟨⟩⟩:=n;have h:((decide (0<=l)&&decide (l<=a-1)&&decide (0<a))&&(decide (0<=r)&&decide (r<=a-1))&&(s==[]&&(k==0&&(m==0&&t==[]))))=true:=by
  rcases c with c|c
  .have c:op=6:=c;subst c;exact h
  .have c:op=7:=c;subst c;exact h
 simp only[avo,avC]at h;have h1:=h.1.1.1;have h2:=h.1.2;dsimp only;omega
theorem Cm{q:List ak}(h:ay q=true):∀(k j:Nat)(i:Int),0<=i->i.toNat<q.length->i.toNat<k->i.toNat<j->bY k q i=bY j q i
 |0,_,_,_,_,hk,_=>absurd hk (awv _)
 |_+1,0,_,_,_,_,hj=>absurd hj (awv _)
 |k+1,j+1,i,hi,hl,hk,hj=>by
  have hn:=(jL h hl).1;rw[bY,bY];cases c5:(nodeAt q i.toNat).1==5 with
  |true=>
   have hc:=afd hn (avS.1 c5);show _::bY k q _=_::bY j q _;rw[Cm h k j (nodeAt q i.toNat).2.1 hc.1 abn abn abn]
  |false=>
  cases c6:(nodeAt q i.toNat).1==6||(nodeAt q i.toNat).1==7 with
  |true=>
   rw[awC,avS,avS]at c6;have hc:=afe hn c6;show _::(bY k q _++bY k q _)=_::(bY j q _++bY j q _);rw[Cm h k j (nodeAt q i.toNat).2.1 hc.1.1 abn abn abn,Cm h k j (nodeAt q i.toNat).2.2.1 hc.2.1 abn abn abn]
  |false=>rfl
def qW(w:List Bytes):Nat:=(w.map λx=>x.length+1).sum
theorem Jk:∀w:List Bytes,(Lib.join w [32]).length<=qW w
 |[]=>avt _
 |[x]=>by rw[join_one];show x.length<=x.length+1+0;omega
 |x::y::r=>by have:=Jk (y::r);rw[jG,avn,avq];show _<=x.length+1+qW (y::r);omega
theorem fZ(x:Bytes)(r:List Bytes):qW (x::r)=x.length+1+qW r:=by unfold qW;rw[avK,awt]
theorem ajf(a b:List Bytes):qW (a++b)=qW a+qW b:=by unfold qW;rw[aws,axh]
theorem Xz(op:Int):(gq op).length<=6:=by unfold gq;cases op==1<;>cases op==2<;>cases op==3<;>cases op==4<;>cases op==5<;>cases op==6<;>cases op==7<;>cases op==8<;>cases op==9<;>decide
theorem akR{v:Ed}(h:bJ v.1 v.2.1 v.2.2.1=true)(h0:v.1≠0):(bD v).length<=10:=by
 unfold bD;rw[h];rcases ama h h0 with⟨n,rfl,a,b⟩|⟨s,rfl,a⟩
 .exact abk (by unfold eu;rw[avD a,avD (show n<=1000000000 from abn)];rfl)
 .exact avx (qB a) abA
theorem ajg{n:ak}(h:dS n 0=true)(hw:n.1=1\/n.1=2\/n.1=3\/n.1=4\/n.1=8\/n.1=9):qW (jD n)<=25:=by
 have hg:n.1=1\/n.2.2.2.1.length<=6:=by
  obtain⟨op,l,r,s,k,m,t,⟨⟩⟩:=n;dsimp only at hw ⊢;rcases hw with rfl|rfl|rfl|rfl|rfl|rfl
  .exact .inl rfl
  .have h:((l==0&&r==0)&&(k==0&&(m==0&&t==[]))&&dD s)=true:=h;rw[avo]at h;exact .inr (qB (kX h.2))
  .have h:((l==0&&r==0)&&dD s&&bJ k m t&&!(k==0))=true:=h;rw[avo,avo,avo]at h;exact .inr (qB (kX h.1.1.2))
  .have h:((l==0&&r==0)&&dD s&&bJ k m t&&k==1)=true:=h;rw[avo,avo,avo]at h;exact .inr (qB (kX h.1.1.2))
  .have h:((l==0&&r==0)&&(k==0&&(m==0&&t==[]))&&aW s)=true:=h;rw[avo]at h;exact .inr (qB h.2)
  .have h:((l==0&&r==0)&&(k==0&&(m==0&&t==[]))&&aW s)=true:=h;rw[avo]at h;exact .inr (qB h.2)
 rcases xA h hw with rfl|⟨op,s,rfl,c,hs⟩|⟨op,s,v,rfl,c,hs,hv,h0⟩
 .decide
 .have hl:s.length<=6:=hg.resolve_left afw;have hk:=Xz op;rw[Dh c,fZ,fZ];show _+(_+0)<=25;omega
 .have hl:s.length<=6:=hg.resolve_left afw;have hk:=Xz op;have hq:=akR hv h0;rw[FH c,fZ,fZ,fZ];show _+(_+(_+0))<=25;omega
theorem Jl{q:List ak}(h:ay q=true):∀(k:Nat)(i:Int),0<=i->i.toNat<q.length->qW (bY k q i)+7<=24*2 ^ k
 |0,_,_,_=>by show 0+7<=24*1;decide
 |k+1,i,hi,hl=>by
  have hn:=(jL h hl).1;have hk:=Xz (nodeAt q i.toNat).1;have hp:1<=2 ^ k:=ax2;have e2:2 ^ (k+1)=2*2 ^ k:=by rw[Nat.pow_succ,ax0]
  rw[bY];cases c5:(nodeAt q i.toNat).1==5 with
  |true=>
   have hc:=afd hn (avS.1 c5);have ih:=Jl h k (nodeAt q i.toNat).2.1 hc.1 abn;show qW (_::_)+7<=_;rw[fZ];omega
  |false=>
  cases c6:(nodeAt q i.toNat).1==6||(nodeAt q i.toNat).1==7 with
  |true=>
   rw[awC,avS,avS]at c6;have hc:=afe hn c6;have i1:=Jl h k (nodeAt q i.toNat).2.1 hc.1.1 abn;have i2:=Jl h k (nodeAt q i.toNat).2.2.1 hc.2.1 abn;show qW (_::(_++_))+7<=_;rw[fZ,ajf];omega
  |false=>
   rw[awK,avp,avp]at c6;have c5:=avp.1 c5;have hw:(nodeAt q i.toNat).1=1\/(nodeAt q i.toNat).1=2\/(nodeAt q i.toNat).1=3\/(nodeAt q i.toNat).1=4\/(nodeAt q i.toNat).1=8\/(nodeAt q i.toNat).1=9:=by
    generalize nodeAt q i.toNat=n at hn c5 c6;obtain⟨op,l,r,s,k,m,t,⟨⟩⟩:=n;dsimp only at c5 c6 ⊢;by_cases a1:op=1
    .exact .inl a1
    by_cases a2:op=2
    .exact .inr (.inl a2)
    by_cases a3:op=3
    .exact .inr (.inr (.inl a3))
    by_cases a4:op=4
    .exact .inr (.inr (.inr (.inl a4)))
    by_cases a8:op=8
    .exact .inr (.inr (.inr (.inr (.inl a8))))
    by_cases a9:op=9
    .exact .inr (.inr (.inr (.inr (.inr a9))))
    unfold dS at hn;dsimp only at hn;rw[avp.2 a1,avp.2 a2,avp.2 a3,avp.2 a4,avp.2 c5,avp.2 c6.1,avp.2 c6.2,avp.2 a8,avp.2 a9]at hn;cases hn
   have:=ajg (by rw[← IE _ hw];exact hn) hw;show qW (jD _)+7<=_;omega
theorem adl(q:List ak):(textOf q).length<=12288:=by
 unfold textOf;cases h:ay q with
 |false=>exact avM _
 |true=>have hl:=gW h;have:=Jl h 9 ((q.length:Int)-1) abn abn;exact avx (Jk _) (by show qW (bY 9 q _)<=12288;omega)
end Sp
namespace Sp
open Go
end Sp
namespace Sp
open Go
theorem CO:∀t:QT,xw t->zo t->(aI t).length<=2*t.size+1/\qW (aI t)<=32*t.size
 |.leaf n,hw,ho=>by
  have h:=ajg ho hw;refine⟨?_,show qW (jD n)<=32*1 from abn⟩;show(jD n).length<=2*1+1;unfold jD;cases n.1==2||(n.1==8||n.1==9)with
  |true=>show 2<=3;decide
  |false=>
   cases n.1==3||n.1==4 with
   |true=>show 3<=3;decide
   |false=>show 1<=3;decide
 |.neg t,hw,ho=>by
  obtain⟨h1,h2⟩:=CO t hw ho;have:=Xz 5;refine⟨?_,?_⟩
  .show(aI t).length+1<=2*(t.size+1)+1;omega
  .show qW (gq 5::aI t)<=32*(t.size+1);rw[fZ];omega
 |.two op a b,⟨_,w1,w2⟩,⟨o1,o2⟩=>by
  obtain⟨h1,h2⟩:=CO a w1 o1;obtain⟨h3,h4⟩:=CO b w2 o2;have:=Xz op;refine⟨?_,?_⟩
  .show(aI a++aI b).length+1<=2*(a.size+b.size+1)+1;rw[avn];omega
  .show qW (gq op::(aI a++aI b))<=32*(a.size+b.size+1);rw[fZ,ajf];omega
theorem Tz:∀as:List bg,(∀a∈as,Jj a=true)->qW (dX as)<=18*as.length
 |[],_=>avt _
 |a::r,h=>by obtain⟨h1,h2,h3⟩:=GX.1 (h a avA);have i:=Tz r λb hb=>h b (avy _ hb);have l1:=qB (kX h1);have l2:=akR (v:=a.2) h2 h3;show qW (a.1::bD a.2::dX r)<=18*(r.length+1);rw[fZ,fZ];omega
theorem anM{f:aU}(h:CJ f=true):qW (jC f)<=24+18*f.2.2.2.2.1.length/\(jC f).length=3+2*f.2.2.2.2.1.length:=by
 obtain⟨h1,h2,h3,h4⟩:=xu.1 h;have i:=Tz _ h1;have l1:=abk h3;have l2:=abk h4;have l3:(bif f.2.2.1 then[115]else[111]:Bytes).length=1:=by cases f.2.2.1<;>rfl
 refine⟨?_,?_⟩
 .show qW (Lib.itoa f.2.1::(bif f.2.2.1 then[115]else[111])::Lib.itoa f.2.2.2.1::dX f.2.2.2.2.1)<=_;rw[fZ,fZ,fZ];omega
 .show(dX f.2.2.2.2.1).length+1+1+1=_;rw[(KC _ h1).2.2];omega
end Sp
namespace Sp
open Go
end Sp
namespace Sp
open Go
end Sp
namespace Sp
open Go
theorem tJ(w:LS)(a i:Int)(ha:0<=a)(hi:0<=i):wordAt (w.drop a.toNat) i=wordAt w (a+i):=by
 by_cases h:a+i<(w.length:Int)
 .rw[pX h,pX amS,avr,av5,avr,show a.toNat+i.toNat=(a+i).toNat from abn]
 .rw[pY (show a+i>=(w.length:Int)from abn),pY amS]
theorem Og:∀(d:Nat)(w:LS)(q:List ak),(rs d w q).1.length<=max (10+d) q.length/\0<=(rs d w q).2/\(rs d w q).2<3*2 ^ d
 |0,w,q=>⟨Nat.le_max_right _ _,awk _,by show(0:Int)<_;decide⟩
 |d+1,w,q=>by
  have hp:1<=2 ^ d:=ax2;have e2:(3:Int)*2 ^ (d+1)=2*(3*2 ^ d):=by rw[Int.pow_succ];omega
  have e3:(1:Int)<=2 ^ d:=by exact_mod_cast hp
  rw[rs];cases h0:dG (wordAt w 0)==0||decide ((q.length:Int)>9)with
  |true=>exact⟨Nat.le_max_right _ _,awk _,by show(0:Int)<_;omega⟩
  |false=>
  rw[awK,av7]at h0;have hq:q.length<=9:=abn;have one:∀(x:ak)(k:Int),0<=k->k<=3->(q++[x],k).1.length<=max (10+(d+1)) q.length/\0<=(q++[x],k).2/\(q++[x],k).2<3*2 ^ (d+1):=λx k h1 h2=>
   ⟨by rw[avn,avq,avu];omega,h1,by show k<_;omega⟩
  cases dG (wordAt w 0)==2||(dG (wordAt w 0)==8||dG (wordAt w 0)==9)with
  |true=>exact one _ _ abA abA
  |false=>
  cases dG (wordAt w 0)==3||dG (wordAt w 0)==4 with
  |true=>exact one _ _ abA abA
  |false=>
  cases dG (wordAt w 0)==5||(dG (wordAt w 0)==6||dG (wordAt w 0)==7)with
  |false=>exact one _ _ abA abA
  |true=>
  have i1:=Og d (w.drop 1) q;show(bif (rs d (w.drop 1) q).2==0 then _ else _:List ak×Int).1.length<=_/\0<=(bif (rs d (w.drop 1) q).2==0 then _ else _:List ak×Int).2/\(bif (rs d (w.drop 1) q).2==0 then _ else _:List ak×Int).2<_;generalize rs d (w.drop 1) q=x at i1 ⊢;obtain⟨r,k⟩:=x;have i1:r.length<=max (10+d) q.length/\0<=k/\k<3*2 ^ d:=i1;have i2:=Og d (w.drop (1+k).toNat) r;cases k==0 with
  |true=>exact⟨by show r.length<=_;omega,awk _,by show(0:Int)<_;omega⟩
  |false=>
  cases dG (wordAt w 0)==5 with
  |true=>exact⟨by show(r++[_]).length<=_;rw[avn,avq,avu];omega,by show 0<=1+k;omega,by show 1+k<_;omega⟩
  |false=>
  show(bif (rs d (w.drop (1+k).toNat) r).2==0 then _ else _:List ak×Int).1.length<=_/\0<=(bif (rs d (w.drop (1+k).toNat) r).2==0 then _ else _:List ak×Int).2/\(bif (rs d (w.drop (1+k).toNat) r).2==0 then _ else _:List ak×Int).2<_;generalize rs d (w.drop (1+k).toNat) r=y at i2 ⊢;obtain⟨s,m⟩:=y;have i2:s.length<=max (10+d) r.length/\0<=m/\m<3*2 ^ d:=i2;cases m==0 with
  |true=>exact⟨by show s.length<=_;omega,awk _,by show(0:Int)<_;omega⟩
  |false=>exact⟨by show(s++[_]).length<=_;rw[avn,avq,avu];omega,by show 0<=1+k+m;omega,by show 1+k+m<_;omega⟩
theorem Df{n:Int}(h:(-9223372036854775808:Int)<=n/\n<=9223372036854775807):(Lib.itoa n).length<=21:=Lib.itoa_length_le n h.1 h.2
theorem ae6{as:List bg}{n:Nat}:(fV (as.take n)).length<=(fV as).length:=by
 induction as generalizing n with
 |nil=>rw[List.take_nil];exact avt _
 |cons a r ih=>
  cases n with
  |zero=>exact avM _
  |succ n=>show(32::(a.1++32::(bD a.2++fV (r.take n)))).length<=(32::(a.1++32::(bD a.2++fV r))).length;have:=@ih n;simp only[avq,avn];omega
theorem aiR{f:aU}(h1:(-9223372036854775808:Int)<=f.1/\f.1<=9223372036854775807)(h2:(-9223372036854775808:Int)<=f.2.1/\f.2.1<=9223372036854775807)(h3:(-9223372036854775808:Int)<=f.2.2.2.1/\f.2.2.2.1<=9223372036854775807):
 (gu f).length<=80+(fV f.2.2.2.2.1).length/\(Lib.join (jC f) [32]).length<=47+(fV f.2.2.2.2.1).length:=by
 have q1:=Df h1;have q2:=Df h2;have q3:=Df h3;have e0:(bif f.2.2.1 then[115]else[111]:Bytes).length=1:=by cases f.2.2.1<;>rfl
 have hb:(Lib.join (jC f) [32]).length<=47+(fV f.2.2.2.2.1).length:=by rw[afZ];simp only[avq,avn,e0];omega
 refine⟨?_,hb⟩;have e:gu f=kC++32::(Lib.itoa f.1++32::Lib.join (jC f) [32]):=by unfold gu;rw[jG];unfold jC;rw[jG]
 rw[e];simp only[avq,avn,show kC.length=4 from rfl];omega
end Sp
namespace Sp
open Go
theorem ZG:∀(sep:List UInt8)(k:Nat)(s:List UInt8),∃h t,Lib.splitK sep 0 k s=h::t
 |_,0,s=>⟨s,[],rfl⟩
 |sep,k+1,s=>by
  unfold Lib.splitK;split
  .exact⟨_,_,rfl⟩
  .exact⟨_,_,rfl⟩
theorem ao3(b c:UInt8)(l h:List UInt8)(t:List (List UInt8))(hb:b≠c)(e:Lib.splitK [c] 0 (Lib.count l [c]) l=h::t):Lib.splitK [c] 0 (Lib.count (b::l) [c]) (b::l)=(b::h)::t:=by
 rw[Lib.count_cons_ne b c l hb];have hp:([c]:List UInt8).isPrefixOf (b::l)=false:=by simp[List.isPrefixOf,axl hb]
 have hix:Lib.index (b::l) [c]=if Lib.index l [c]==-1 then -1 else Lib.index l [c]+1:=by rw[Lib.index,hp];simp
 cases hk:Lib.count l [c]with
 |zero=>rw[hk]at e;simp only[Lib.splitK,List.cons.injEq]at e ⊢;exact⟨⟨trivial,e.1⟩,e.2⟩
 |succ k=>
  rw[hk]at e;by_cases hm:Lib.index l [c]=-1
  .rw[Lib.count_miss hm]at hk;cases hk
  .have hge:=Lib.index_ge l [c];obtain⟨j,hj⟩:∃j:Nat,Lib.index l [c]=j:=⟨(Lib.index l [c]).toNat,abn⟩;have hix':Lib.index (b::l) [c]=((j+1:Nat):Int):=by rw[hix,if_neg (λe=>hm (avS.1 e)),hj];omega
   simp only[Lib.splitK]at e ⊢;rw[hj,if_neg (λh=>by have:=avS.1 h;omega)]at e;rw[hix',if_neg (λh=>by have:=avS.1 h;omega)];simp only[List.cons.injEq,avJ]at e ⊢;refine⟨?_,?_⟩
   .rw[← e.1];rfl
   .rw[← e.2];rfl
theorem ao4(c:UInt8)(l:List UInt8):Lib.splitK [c] 0 (Lib.count (c::l) [c]) (c::l)=[]::Lib.splitK [c] 0 (Lib.count l [c]) l:=by
 rw[Lib.count_cons_eq,ayj];have hix:Lib.index (c::l) [c]=((0:Nat):Int):=by rw[Lib.index];simp[List.isPrefixOf]
 simp only[Lib.splitK];rw[hix,if_neg acA];rfl
end Sp
namespace Sp
open Go
theorem Il(c:UInt8):∀(l cur h:Bytes)(t:List Bytes),Lib.splitK [c] 0 (Lib.count l [c]) l=h::t->(dB c cur l).map (·.1)=(cur++h)::t
 |[],cur,h,t,e=>by
  have h0:Lib.count [] [c]=0:=Lib.count_one c [];rw[h0]at e;simp only[Lib.splitK,List.cons.injEq]at e;rw[← e.1,← e.2,avU];rfl
 |b::l,cur,h,t,e=>by
  obtain⟨h',t',e'⟩:=ZG [c] (Lib.count l [c]) l;by_cases hb:b=c
  .obtain rfl:b=c:=hb;rw[ao4,List.cons.injEq]at e;have hl:dB b cur (b::l)=(cur,())::dB b [] l:=by rw[dB,awF];rfl
   rw[hl,avK,Il b l [] h' t' e',← e.1,← e.2,e',avU,awo]
  .rw[ao3 b c l h' t' hb e',List.cons.injEq]at e;have hl:dB c cur (b::l)=dB c (cur++[b]) l:=by rw[dB,avp.2 hb];rfl
   rw[hl,Il c l (cur++[b]) h' t' e',← e.1,← e.2,avE];rfl
theorem aid(c:UInt8)(s:Bytes):(pieces c s).map (·.1)=Lib.split s [c]:=by obtain⟨h,t,e⟩:=ZG [c] (Lib.count s [c]) s;unfold pieces Lib.split;rw[Il c s [] h t e,e,awo]
theorem O7(c:UInt8):∀(l cur:Bytes)(x:Bytes×Unit),x∈dB c cur l->x.1.length<=cur.length+l.length
 |[],cur,x,h=>by
  simp only[dB,avP]at h;subst h;simp
 |b::l,cur,x,h=>by
  rw[dB]at h;cases hb:b==c with
  |true=>
   rw[hb]at h;rcases avF.1 h with rfl|h
   .simp
   .have:=O7 c l [] x h;simp at this ⊢;omega
  |false=>rw[hb]at h;have:=O7 c l (cur++[b]) x h;simp at this ⊢;omega
theorem Cc{c:UInt8}{s:Bytes}:∀x∈pieces c s,x.1.length<=s.length:=λx hx=>by have:=O7 c s [] x hx;simpa using this
theorem MJ(c:UInt8):∀(l cur:Bytes),(dB c cur l).length<=l.length+1
 |[],cur=>avt _
 |b::l,cur=>by
  rw[dB];cases b==c with
  |true=>have:=MJ c l [];show _+1<=_;simp;omega
  |false=>have:=MJ c l (cur++[b]);show(dB c (cur++[b]) l).length<=_;simp;omega
theorem pieces_len(c:UInt8)(s:Bytes):(pieces c s).length<=s.length+1:=MJ c s []
end Sp
namespace Sp
open Go
theorem Oc{n:ak}{a:Int}(hn:dS n a=true):(n.1=1\/n.1=2\/n.1=3\/n.1=4\/n.1=8\/n.1=9)\/n.1=5\/n.1=6\/n.1=7:=by
 obtain⟨op,l,r,s,k,m,t,⟨⟩⟩:=n;dsimp only;by_cases a1:op=1
 .omega
 by_cases a2:op=2
 .omega
 by_cases a3:op=3
 .omega
 by_cases a4:op=4
 .omega
 by_cases a5:op=5
 .omega
 by_cases a6:op=6
 .omega
 by_cases a7:op=7
 .omega
 by_cases a8:op=8
 .omega
 by_cases a9:op=9
 .omega
 unfold dS at hn;dsimp only at hn;rw[avp.2 a1,avp.2 a2,avp.2 a3,avp.2 a4,avp.2 a5,avp.2 a6,avp.2 a7,avp.2 a8,avp.2 a9]at hn;cases hn
theorem akC{q:List ak}{i:Int}(k:Nat)(c:(nodeAt q i.toNat).1=1\/(nodeAt q i.toNat).1=2\/(nodeAt q i.toNat).1=3\/(nodeAt q i.toNat).1=4\/(nodeAt q i.toNat).1=8\/(nodeAt q i.toNat).1=9):bY (k+1) q i=jD (nodeAt q i.toNat):=by rw[bY,avp.2 (show(nodeAt q i.toNat).1≠5 from abn),avp.2 (show(nodeAt q i.toNat).1≠6 from abn),avp.2 (show(nodeAt q i.toNat).1≠7 from abn)];rfl
theorem anq{q:List ak}{i:Int}(h:ay q=true)(h0:0<=i)(hl:i<(q.length:Int))(c:(nodeAt q i.toNat).1=5):
 bY (i.toNat+1) q i=gq 5::bY ((nodeAt q i.toNat).2.1.toNat+1) q (nodeAt q i.toNat).2.1/\0<=(nodeAt q i.toNat).2.1/\(nodeAt q i.toNat).2.1<i:=by
 have hn:=(jL h (show i.toNat<q.length from abn)).1;have hk:=afd hn c;have hk2:(nodeAt q i.toNat).2.1<i:=by have:=hk.2;omega
 refine⟨?_,hk.1,hk2⟩;rw[bY,avS.2 c,c,Cm h i.toNat ((nodeAt q i.toNat).2.1.toNat+1) (nodeAt q i.toNat).2.1 hk.1 abn abn abn];rfl
theorem anr{q:List ak}{i:Int}(h:ay q=true)(h0:0<=i)(hl:i<(q.length:Int))(c:(nodeAt q i.toNat).1=6\/(nodeAt q i.toNat).1=7):
 bY (i.toNat+1) q i=gq (nodeAt q i.toNat).1::(bY ((nodeAt q i.toNat).2.1.toNat+1) q (nodeAt q i.toNat).2.1++bY ((nodeAt q i.toNat).2.2.1.toNat+1) q (nodeAt q i.toNat).2.2.1)/\
  (0<=(nodeAt q i.toNat).2.1/\(nodeAt q i.toNat).2.1<i)/\0<=(nodeAt q i.toNat).2.2.1/\(nodeAt q i.toNat).2.2.1<i:=by
 have hn:=(jL h (show i.toNat<q.length from abn)).1;have hk:=afe hn c;have e:((i.toNat:Nat):Int)=i:=abn;rw[e]at hk;refine⟨?_,hk.1,hk.2⟩;have hc:((nodeAt q i.toNat).1==6||(nodeAt q i.toNat).1==7)=true:=by rcases c with c|c<;>rw[c]<;>rfl
 rw[bY,avp.2 (show(nodeAt q i.toNat).1≠5 from abn),hc,Cm h i.toNat ((nodeAt q i.toNat).2.1.toNat+1) (nodeAt q i.toNat).2.1 hk.1.1 abn abn abn,
  Cm h i.toNat ((nodeAt q i.toNat).2.2.1.toNat+1) (nodeAt q i.toNat).2.2.1 hk.2.1 abn abn abn]
 rfl
theorem aiK{q:List ak}{i:Int}(h:ay q=true)(h0:0<=i)(hl:i<(q.length:Int)):(Lib.join (bY (i.toNat+1) q i) [32]).length<=12288:=by have:=(gW h).2;have hw:=Jl h (i.toNat+1) i h0 abn;have hp:2 ^ (i.toNat+1)<=2 ^ 9:=Nat.pow_le_pow_right abA abn;refine avx (Jk _) ?_;have e:(2:Nat) ^ 9=512:=abA;omega
def GK(w:Bytes):Nat->Int
 |0=>0
 |k+1=>bif w==gq ((k:Int)+1)then(k:Int)+1 else GK w k
theorem ac4(w:Bytes):GK w 9=dG w:=by
 rcases Ae w with h|⟨h,e⟩
 .have no:∀op:Int,(op=1\/op=2\/op=3\/op=4\/op=5\/op=6\/op=7\/op=8\/op=9)->(w==gq op)=false:=λop ho=>avp.2 λe=>by rw[e,zq ho]at h;omega
  rw[h];simp only[GK];rw[no _ abA,no _ abA,no _ abA,no _ abA,no _ abA,no _ abA,no _ abA,no _ abA,no _ abA];rfl
 .rw[← e];rcases h with h|h|h|h|h|h|h|h|h<;>rw[h]<;>decide
theorem ac5(w:Bytes):0<=dG w/\dG w<=9:=by rcases Ae w with h|⟨h,_⟩<;>omega
theorem ada{as:List bg}{n:Nat}(h:n<as.length):dX (as.take (n+1))=dX (as.take n)++[(as.getD n ([],0,0,[],())).1,bD (as.getD n ([],0,0,[],())).2]:=by
 induction as generalizing n with
 |nil=>exact absurd h (awv _)
 |cons a r ih=>
  cases n with
  |zero=>rfl
  |succ n=>
   have h:n<r.length:=by rw[avq]at h;omega
   show a.1::bD a.2::dX (r.take (n+1))=a.1::bD a.2::(dX (r.take n)++_);rw[ih h];rfl
theorem Ih:∀as:List bg,(dX as).length=2*as.length
 |[]=>rfl
 |a::r=>by show(dX r).length+1+1=2*(r.length+1);rw[Ih r];omega
end Sp
namespace Sp
open Go
def Jm(q:List ak):QT->Nat->Prop
 |.leaf n,i=>nodeAt q i=n/\(n.1=1\/n.1=2\/n.1=3\/n.1=4\/n.1=8\/n.1=9)
 |.neg t,i=>(nodeAt q i).1=5/\Jm q t (nodeAt q i).2.1.toNat
 |.two op a b,i=>(nodeAt q i).1=op/\(op=6\/op=7)/\Jm q a (nodeAt q i).2.1.toNat/\Jm q b (nodeAt q i).2.2.1.toNat
theorem adA{q:List ak}:∀(t:QT)(i:Nat),Jm q t i->xw t
 |.leaf _,_,h=>h.2
 |.neg t,_,h=>adA t _ h.2
 |.two _ a b,_,h=>⟨h.2.1,adA a _ h.2.2.1,adA b _ h.2.2.2⟩
theorem aqs{q:List ak}(h:ay q=true)(i:Nat)(hi:i<q.length):∃t,Jm q t i:=by
 induction i using Nat.strongRecOn with
 |_ i ih=>
  obtain⟨g1,g2⟩:=l9 h hi;rcases Oc (jL h hi).1 with c|c|c
  .exact⟨.leaf (nodeAt q i),rfl,c⟩
  .obtain⟨_,l⟩:=g1 (.inl c);obtain⟨t,ht⟩:=ih _ l abn;exact⟨.neg t,c,ht⟩
  .obtain⟨_,l1⟩:=g1 (.inr (lJ.2 c));obtain⟨_,l2⟩:=g2 (lJ.2 c);obtain⟨a,ha⟩:=ih _ l1 abn;obtain⟨b,hb⟩:=ih _ l2 abn;exact⟨.two (nodeAt q i).1 a b,rfl,c,ha,hb⟩
theorem adB{q:List ak}(h:ay q=true):∀(t:QT)(i:Nat),i<q.length->Jm q t i->zo t
 |.leaf n,i,hi,ht=>by
  obtain⟨rfl,c⟩:=ht;show dS (nodeAt q i) 0=true;rw[← IE (i:Int) c];exact(jL h hi).1
 |.neg t,i,hi,ht=>adB h t _ (by have:=((l9 h hi).1 (.inl ht.1)).2;omega) ht.2
 |.two op a b,i,hi,⟨e,c,ha,hb⟩=>by have c:iZ (nodeAt q i)=true:=lJ.2 asW;exact⟨adB h a _ (by have:=((l9 h hi).1 (.inr c)).2;omega) ha,adB h b _ (by have:=((l9 h hi).2 c).2;omega) hb⟩
theorem TW{q:List ak}(h:ay q=true):∀(t:QT)(i k:Nat),i<q.length->i<k->Jm q t i->bY k q (i:Int)=aI t
 |_,_,0,_,hk,_=>absurd hk (awv _)
 |.leaf n,i,k+1,hi,hk,ht=>by
  obtain⟨rfl,c⟩:=ht;rw[bY,avJ,show((nodeAt q i).1==5)=false from avp.2 abn,show((nodeAt q i).1==6)=false from avp.2 abn,show((nodeAt q i).1==7)=false from avp.2 abn];rfl
 |.neg t,i,k+1,hi,hk,⟨e,ht⟩=>by
  obtain⟨l0,l1⟩:=(l9 h hi).1 (.inl e);have ih:=TW h t _ k abn abn ht;rw[ayq l0]at ih;rw[bY,avJ,ih,e];rfl
 |.two op a b,i,k+1,hi,hk,⟨e,c,ha,hb⟩=>by have c2:iZ (nodeAt q i)=true:=lJ.2 asW;obtain⟨l0,l1⟩:=(l9 h hi).1 (.inr c2);obtain⟨m0,m1⟩:=(l9 h hi).2 c2;have i1:=TW h a _ k abn abn ha;have i2:=TW h b _ k abn abn hb;rw[ayq l0]at i1;rw[ayq m0]at i2;rw[bY,avJ,i1,i2,e];rcases c with rfl|rfl<;>rfl
def vis(q:List ak):QT->Nat->List Nat
 |.leaf _,i=>[i]
 |.neg t,i=>i::vis q t (nodeAt q i).2.1.toNat
 |.two _ a b,i=>i::(vis q a (nodeAt q i).2.1.toNat++vis q b (nodeAt q i).2.2.1.toNat)
theorem Yb{q:List ak}:∀(t:QT)(i:Nat),(vis q t i).length=t.size
 |.leaf _,_=>rfl
 |.neg t,_=>by rw[vis,avq,Yb t];rfl
 |.two _ a b,_=>by rw[vis,avq,avn,Yb a,Yb b];rfl
theorem QI{q:List ak}(h:ay q=true):∀(t:QT)(i:Nat),i<q.length->Jm q t i->∀p∈vis q t i,p<=i
 |.leaf _,i,_,_,p,hp=>by rw[avP.1 hp];exact avt _
 |.neg t,i,hi,⟨e,ht⟩,p,hp=>by
  obtain⟨_,l1⟩:=(l9 h hi).1 (.inl e);rcases avF.1 hp with rfl|hp
  .exact avt _
  .have:=QI h t _ abn ht p hp;omega
 |.two op a b,i,hi,⟨e,c,ha,hb⟩,p,hp=>by
  have c2:iZ (nodeAt q i)=true:=lJ.2 asW;obtain⟨_,l1⟩:=(l9 h hi).1 (.inr c2);obtain⟨_,m1⟩:=(l9 h hi).2 c2;rcases avF.1 hp with rfl|hp
  .exact avt _
  rcases avR.1 hp with hp|hp
  .have:=QI h a _ abn ha p hp;omega
  .have:=QI h b _ abn hb p hp;omega
theorem XB{n:ak}(j:Nat)(c:n.1=1\/n.1=2\/n.1=3\/n.1=4\/n.1=8\/n.1=9):refsOf j n=0:=by unfold refsOf iZ;rcases c with e|e|e|e|e|e<;>simp[e]
theorem abl{n:ak}(j:Nat)(c:n.1=5)(h0:0<=n.2.1):refsOf j n=if j=n.2.1.toNat then 1 else 0:=by
 unfold refsOf iZ;by_cases e:j=n.2.1.toNat
 .have:n.2.1=(j:Int):=abn;simp[c,this]
 .have:(n.2.1==(j:Int))=false:=avp.2 abn;simp[c,this,e]
theorem abm{n:ak}(j:Nat)(c:n.1=6\/n.1=7)(h0:0<=n.2.1)(h1:0<=n.2.2.1):refsOf j n=(if j=n.2.1.toNat then 1 else 0)+(if j=n.2.2.1.toNat then 1 else 0):=by
 unfold refsOf;rw[lJ.2 c];have l:(n.2.1==(j:Int))=decide (j=n.2.1.toNat):=by rw[av3,avS,avC];omega
 have r:(n.2.2.1==(j:Int))=decide (j=n.2.2.1.toNat):=by rw[av3,avS,avC];omega
 rw[l,r];by_cases e1:j=n.2.1.toNat<;>by_cases e2:j=n.2.2.1.toNat<;>simp[e1,e2]
theorem II(j i:Nat)(l:List Nat):(i::l).count j=(if j=i then 1 else 0)+l.count j:=by
 rw[List.count_cons];by_cases e:j=i
 .subst e;simp;omega
 .rw[if_neg e,if_neg (by simpa usingλh=>e h.symm)];omega
theorem TY{q:List ak}(h:ay q=true)(j:Nat):∀(t:QT)(i:Nat),i<q.length->Jm q t i->(vis q t i).count j=(if j=i then 1 else 0)+((vis q t i).map λp=>refsOf j (nodeAt q p)).sum
 |.leaf n,i,_,ht=>by
  obtain⟨rfl,c⟩:=ht;rw[vis,II,avK,awt,XB j c];simp
 |.neg t,i,hi,⟨e,ht⟩=>by
  obtain⟨l0,l1⟩:=(l9 h hi).1 (.inl e);rw[vis,II,TY h j t _ abn ht,avK,awt,abl j e l0]
 |.two op a b,i,hi,⟨e,c,ha,hb⟩=>by have c1:(nodeAt q i).1=6\/(nodeAt q i).1=7:=asW;have c2:iZ (nodeAt q i)=true:=lJ.2 c1;obtain⟨l0,l1⟩:=(l9 h hi).1 (.inr c2);obtain⟨m0,m1⟩:=(l9 h hi).2 c2;rw[vis,II,List.count_append,TY h j a _ abn ha,TY h j b _ abn hb,avK,awt,aws,axh,abm j c1 l0 m0];omega
theorem akS(f:Nat->Nat)(a:Nat):∀n,a<n->((List.range n).map λp=>(if p=a then 1 else 0)*f p).sum=f a
 |n+1,h=>by
  rw[axW,aws,axh,avK,ayl,awt,List.sum_nil];by_cases e:n=a
  .subst e;have z:∀m,m<=n->((List.range m).map λp=>(if p=n then 1 else 0)*f p).sum=0:=by
    intro m
    induction m with
    |zero=>intro _;rfl
    |succ m ih=>intro hm;rw[axW,aws,axh,ih abn,avK,ayl,awt,List.sum_nil,if_neg abn];omega
   rw[z n (avt _),if_pos rfl];omega
  .rw[akS f a n abn,if_neg e];omega
theorem sum_add(f g:Nat->Nat):∀l:List Nat,(l.map λp=>f p+g p).sum=(l.map f).sum+(l.map g).sum
 |[]=>rfl
 |a::l=>by rw[avK,awt,sum_add f g l,avK,awt,avK,awt];omega
theorem XC(f:Nat->Nat)(n:Nat):∀l:List Nat,(∀p∈l,p<n)->(l.map f).sum=((List.range n).map λp=>l.count p*f p).sum
 |[],_=>by
  have:∀r:List Nat,(r.map λp=>([]:List Nat).count p*f p).sum=0:=by
   intro r
   induction r with
   |nil=>rfl
   |cons a r ih=>rw[avK,awt,ih];simp
  rw[this];rfl
 |a::l,h=>by
  have e:(λp=>(a::l).count p*f p)=λp=>(if p=a then 1 else 0)*f p+l.count p*f p:=by
   funext p
   rw[II,av8]
  rw[e,sum_add,akS f a n (h a avA),avK,awt,XC f n l λp hp=>h p (avy _ hp)]
theorem map_range(g:ak->Nat)(q:List ak):q.map g=(List.range q.length).map λp=>g (nodeAt q p):=by refine axN acA λi h1 h2=>?_;rw[avI]at h1;rw[aya,aya,List.getElem_range];unfold nodeAt;rw[avr,avv h1];rfl
theorem Ua{f g:Nat->Nat}:∀l:List Nat,(∀p∈l,f p=g p)->(l.map f).sum=(l.map g).sum
 |[],_=>rfl
 |a::l,h=>by rw[avK,awt,avK,awt,h a avA,Ua l λp hp=>h p (avy _ hp)]
theorem af8{q:List ak}(h:ay q=true){p j:Nat}(hp:p<q.length)(hj:p<=j):refsOf j (nodeAt q p)=0:=by
 obtain⟨g1,g2⟩:=l9 h hp;rcases Oc (jL h hp).1 with c|c|c
 .exact XB j c
 .obtain⟨l0,l1⟩:=g1 (.inl c);rw[abl j c l0,if_neg abn]
 .obtain⟨l0,l1⟩:=g1 (.inr (lJ.2 c));obtain⟨m0,m1⟩:=g2 (lJ.2 c);rw[abm j c l0 m0,if_neg abn,if_neg abn]
theorem count_one{q:List ak}(h:ay q=true){t:QT}(ht:Jm q t (q.length-1)):∀(m j:Nat),j<q.length->q.length-1-j=m->(vis q t (q.length-1)).count j=1:=by
 intro m;have hl:=gW h
 induction m using Nat.strongRecOn with
 |_ m ih=>
  intro j hj hm;rw[TY h j t _ abn ht,XC _ q.length _ λp hp=>by have:=QI h t _ abn ht p hp;omega];have e:((List.range q.length).map λp=>(vis q t (q.length-1)).count p*refsOf j (nodeAt q p)).sum=((List.range q.length).map λp=>refsOf j (nodeAt q p)).sum:=by
   refine Ua _ λp hp=>?_;have hp:=awh.1 hp;rcases avN j p with g|g
   .rw[ih (q.length-1-p) abn p hp rfl,ax8]
   .rw[af8 h hp g,Nat.mul_zero]
  rw[e];by_cases c:j=q.length-1
  .rw[if_pos c];have z:((List.range q.length).map λp=>refsOf j (nodeAt q p)).sum=((List.range q.length).map λ_=>0).sum:=Ua _ λp hp=>af8 h (awh.1 hp) (by have:=awh.1 hp;omega);rw[z];have:∀r:List Nat,(r.map λ_=>0).sum=0:=by
    intro r
    induction r with
    |nil=>rfl
    |cons a r ih=>rw[avK,awt,ih]
   rw[this]
  .rw[if_neg c];have:=(jL h hj).2 abn;unfold gX at this;rw[map_range]at this;rw[this]
theorem anN{q:List ak}(h:ay q=true){t:QT}(ht:Jm q t (q.length-1)):t.size=q.length:=by
 have hl:=gW h;have e:=XC (λ_=>1) q.length (vis q t (q.length-1)) λp hp=>by have:=QI h t _ abn ht p hp;omega
 have ones:∀r:List Nat,(r.map λ_=>1).sum=r.length:=by
  intro r
  induction r with
  |nil=>rfl
  |cons a r ih=>rw[avK,awt,ih,avq];omega
 rw[ones,Yb,Ua (g:=λ_=>1) _ λp hp=>by rw[count_one h ht _ p (awh.1 hp) rfl],ones,List.length_range]at e;exact e
theorem O8{l r:List ak}{i:Nat}(h:i<l.length):nodeAt (l++r) i=nodeAt l i:=by unfold nodeAt;rw[avr,awe h,← avr]
theorem MK{l r:List ak}{i:Nat}(h:l.length<=i):nodeAt (l++r) i=nodeAt r (i-l.length):=by unfold nodeAt;rw[avr,av1 h,← avr]
theorem arl{l a:Int}(h0:0<=l)(h1:l<=a-1):dS (5,l,0,[],0,0,[],()) a=true:=by have h2:0<a:=abn;unfold dS;simp[h0,h1,h2]
theorem ok_two{op l r a:Int}(c:op=6\/op=7)(h0:0<=l)(h1:l<=a-1)(g0:0<=r)(g1:r<=a-1):dS (op,l,r,[],0,0,[],()) a=true:=by have h2:0<a:=abn;unfold dS;rcases c with rfl|rfl<;>simp[h0,h1,h2,g0,g1]
theorem Yc:∀(t:QT)(b i:Nat),xw t->zo t->i<t.size->dS (nodeAt (post t b) i) ((b+i:Nat):Int)=true
 |.leaf n,b,i,hw,ho,hi=>by
  have hi:i<1:=hi;obtain rfl:i=0:=abn;show dS n _=true;rw[IE _ hw];exact ho
 |.neg t,b,i,hw,ho,hi=>by
  have hi:i<t.size+1:=hi;have hp:=eH t b;have hs:=size_pos t;rw[post];rcases avN i t.size with g|g
  .rw[O8 abn];exact Yc t b i hw ho g
  .rw[MK abn,hp,show i-t.size=0 from abn];exact arl abn abn
 |.two op x y,b,i,⟨c,w1,w2⟩,⟨o1,o2⟩,hi=>by
  have hi:i<x.size+y.size+1:=hi;have hp:=eH x b;have hp2:=eH y (b+x.size);have hs:=size_pos x;have hs2:=size_pos y;rw[post];rcases avN i x.size with g|g
  .rw[O8 abn];exact Yc x b i w1 o1 g
  .rw[MK abn,hp];rcases avN (i-x.size) y.size with g2|g2
   .rw[O8 abn];have:=Yc y (b+x.size) (i-x.size) w2 o2 g2
    rwa [show b+x.size+(i-x.size)=b+i from abn]at this
   .rw[MK abn,hp2,show i-x.size-y.size=0 from abn];exact ok_two c abn abn abn abn
theorem Om:∀(t:QT)(b j:Nat),xw t->gX (post t b) j=if b<=j/\j+1<b+t.size then 1 else 0
 |.leaf n,b,j,hw=>by
  have:gX (post (.leaf n) b) j=refsOf j n+0:=rfl;rw[this,XB j hw,if_neg (by show ¬(b<=j/\j+1<b+1);omega)]
 |.neg t,b,j,hw=>by
  have hs:=size_pos t;have e:gX (post (.neg t) b) j=gX (post t b) j+(refsOf j (5,((b+t.size:Nat):Int)-1,0,[],0,0,[],())+0):=by unfold gX;rw[post,aws,axh];rfl
  rw[e,Om t b j hw,abl j rfl (by show 0<=((b+t.size:Nat):Int)-1;omega)];have e2:(((b+t.size:Nat):Int)-1).toNat=b+t.size-1:=abn;show _+((if j=(((b+t.size:Nat):Int)-1).toNat then 1 else 0)+0)=if b<=j/\j+1<b+(t.size+1)then 1 else 0
  rw[e2];split<;>split<;>split<;>omega
 |.two op x y,b,j,⟨c,w1,w2⟩=>by
  have hs:=size_pos x;have hs2:=size_pos y;have e:gX (post (.two op x y) b) j=gX (post x b) j+(gX (post y (b+x.size)) j+(refsOf j (op,((b+x.size:Nat):Int)-1,((b+x.size+y.size:Nat):Int)-1,[],0,0,[],())+0)):=by unfold gX;rw[post,aws,axh,aws,axh];rfl
  rw[e,Om x b j w1,Om y _ j w2,abm j c (by show 0<=((b+x.size:Nat):Int)-1;omega) (by show 0<=((b+x.size+y.size:Nat):Int)-1;omega)];have e2:(((b+x.size:Nat):Int)-1).toNat=b+x.size-1:=abn;have e3:(((b+x.size+y.size:Nat):Int)-1).toNat=b+x.size+y.size-1:=abn;show _+(_+((if j=(((b+x.size:Nat):Int)-1).toNat then 1 else 0)+(if j=(((b+x.size+y.size:Nat):Int)-1).toNat then 1 else 0)+0))=if b<=j/\j+1<b+(x.size+y.size+1)then 1 else 0
  rw[e2,e3];split<;>split<;>split<;>split<;>split<;>omega
theorem ajh{t:QT}(hw:xw t)(ho:zo t)(hs:t.size<=9):ay (post t 0)=true:=by
 have hp:=size_pos t;unfold ay;rw[eH,avo,avo,avC,avC];refine⟨?_,abn,abn⟩;unfold ji;rw[avL];intro i hi;have hi:=awh.1 hi;have h1:=Yc t 0 i hw ho hi;rw[avV]at h1;unfold kV;rw[h1,axj,eH,Om t 0 i hw];by_cases c:(i:Int)<(t.size:Int)-1
 .rw[if_pos abn];simp
 .rw[avH c];rfl
theorem Ub:∀(t:QT)(l r:List ak),xw t->Jm (l++(post t l.length++r)) t (l.length+t.size-1)
 |.leaf n,l,r,hw=>by
  refine⟨?_,hw⟩;show nodeAt (l++(n::r)) l.length=n;exact Di l r n
 |.neg t,l,r,hw=>by
  have hs:=size_pos t;have e:l++(post (.neg t) l.length++r)=l++(post t l.length++(((5,((l.length+t.size:Nat):Int)-1,0,[],0,0,[],()):ak)::r)):=by show l++((post t l.length++[_])++r)=_;rw[avE];rfl
  have en:nodeAt (l++(post (.neg t) l.length++r)) (l.length+t.size)=(5,((l.length+t.size:Nat):Int)-1,0,[],0,0,[],()):=by rw[e,← avE,show l.length+t.size=(l++post t l.length).length by rw[avn,eH]];exact Di _ _ _
  have ei:l.length+(QT.neg t).size-1=l.length+t.size:=by show l.length+(t.size+1)-1=_;omega
  have ih:=Ub t l ((5,((l.length+t.size:Nat):Int)-1,0,[],0,0,[],())::r) hw;rw[← e]at ih;rw[ei];refine⟨by rw[en],?_⟩;rw[en];show Jm _ t (((l.length+t.size:Nat):Int)-1).toNat;rw[show(((l.length+t.size:Nat):Int)-1).toNat=l.length+t.size-1 from abn];exact ih
 |.two op x y,l,r,⟨c,w1,w2⟩=>by
  have hs:=size_pos x;have hs2:=size_pos y;generalize hn:((op,((l.length+x.size:Nat):Int)-1,((l.length+x.size+y.size:Nat):Int)-1,[],0,0,[],()):ak)=N;have e:l++(post (.two op x y) l.length++r)=l++(post x l.length++(post y (l.length+x.size)++(N::r))):=by show l++((post x l.length++(post y (l.length+x.size)++[_]))++r)=_;rw[hn,avE,avE];rfl
  have i1:=Ub x l (post y (l.length+x.size)++(N::r)) w1;have i2:=Ub y (l++post x l.length) (N::r) w2;rw[avn,eH,avE]at i2;rw[← e]at i1 i2;have en:nodeAt (l++(post (.two op x y) l.length++r)) (l.length+x.size+y.size)=N:=by rw[e,← avE,← avE,show l.length+x.size+y.size=((l++post x l.length)++post y (l.length+x.size)).length by rw[avn,avn,eH,eH]];exact Di _ _ _
  have ei:l.length+(QT.two op x y).size-1=l.length+x.size+y.size:=by show l.length+(x.size+y.size+1)-1=_;omega
  rw[ei];refine⟨by rw[en,← hn],c,?_,?_⟩
  .rw[en,← hn];show Jm _ x (((l.length+x.size:Nat):Int)-1).toNat;rw[show(((l.length+x.size:Nat):Int)-1).toNat=l.length+x.size-1 from abn];exact i1
  .rw[en,← hn];show Jm _ y (((l.length+x.size+y.size:Nat):Int)-1).toNat;rw[show(((l.length+x.size+y.size:Nat):Int)-1).toNat=l.length+x.size+y.size-1 from abn];exact i2
def tD:QT->Bool->List (Bool×Bytes)
 |.leaf n,p=>bif pF n then[(p,n.2.2.2.1)]else[]
 |.neg t,_=>tD t true
 |.two _ a b,p=>tD a p++tD b p
theorem aji{n:ak}(c:n.1=5\/n.1=6\/n.1=7):pF n=false:=by unfold pF;rcases c with e|e|e<;>rw[e]<;>rfl
theorem adC{q:List ak}(h:ay q=true)(x:Bool×Bytes):∀(t:QT)(i:Nat),i<q.length->Jm q t i->(x∈tD t (sZ q i)↔∃p∈vis q t i,pF (nodeAt q p)=true/\x=(sZ q p,(nodeAt q p).2.2.2.1))
 |.leaf n,i,hi,⟨e,c⟩=>by
  subst e;rw[tD];cases hn:pF (nodeAt q i)with
  |true=>exact⟨λhx=>⟨i,avA,hn,avP.1 hx⟩,λ⟨p,hp,_,e⟩=>by rw[avP.1 hp]at e;rw[e];exact avA⟩
  |false=>exact⟨λhx=>(ayD hx).elim,λ⟨p,hp,e,_⟩=>by rw[avP.1 hp,hn]at e;cases e⟩
 |.neg t,i,hi,⟨e,ht⟩=>by
  obtain⟨l0,l1⟩:=(l9 h hi).1 (.inl e);have ih:=adC h x t _ abn ht;rw[(TN h hi).1 e]at ih;rw[tD,vis,ih];refine⟨λ⟨p,hp,r⟩=>⟨p,avy _ hp,r⟩,λ⟨p,hp,r⟩=>?_⟩;rcases avF.1 hp with rfl|hp
  .rw[aji (.inl e)]at r;cases r.1
  .exact⟨p,hp,r⟩
 |.two op a b,i,hi,⟨e,c,ha,hb⟩=>by
  have c1:(nodeAt q i).1=6\/(nodeAt q i).1=7:=asW;have c2:iZ (nodeAt q i)=true:=lJ.2 c1;obtain⟨l0,l1⟩:=(l9 h hi).1 (.inr c2);obtain⟨m0,m1⟩:=(l9 h hi).2 c2;obtain⟨n1,n2⟩:=(TN h hi).2 c2;have i1:=adC h x a _ abn ha;have i2:=adC h x b _ abn hb;rw[n1]at i1;rw[n2]at i2;rw[tD,vis,avR,i1,i2];refine⟨λhx=>?_,λ⟨p,hp,r⟩=>?_⟩
  .rcases hx with⟨p,hp,r⟩|⟨p,hp,r⟩
   .exact⟨p,avy _ (awg _ hp),r⟩
   .exact⟨p,avy _ (awz _ hp),r⟩
  .rcases avF.1 hp with rfl|hp
   .rw[aji (.inr c1)]at r;cases r.1
   rcases avR.1 hp with hp|hp
   .exact .inl ⟨p,hp,r⟩
   .exact .inr ⟨p,hp,r⟩
theorem af9{q:List ak}(h:ay q=true){t:QT}(ht:Jm q t (q.length-1))(s:Bytes)(b:Bool):s∈dV q b↔(b,s)∈tD t false:=by
 have hl:=gW h;have hn:(negated q).length=q.length:=by unfold negated;rw[h];show(iI _ _ _).length=_;rw[AQ];simp
 have key:=adC h (b,s) t (q.length-1) abn ht;rw[adr h]at key;rw[key];constructor
 .intro hs;unfold dV at hs;rw[axe]at hs;obtain⟨i,hi,e⟩:=hs;have hi:i<q.length:=by rw[hn]at hi;exact awh.1 hi
  cases hc:pF (nodeAt q i)&&((negated q).getD i (false,())).1==b with
  |false=>rw[hc]at e;cases e
  |true=>rw[hc]at e;rw[avo]at hc;have e:(nodeAt q i).2.2.2.1=s:=Option.some.inj e;have hb:sZ q i=b:=avS.1 hc.2;refine⟨i,List.count_pos_iff.1 (by rw[count_one h ht _ i hi rfl];decide),hc.1,by rw[hb,e]⟩
 .rintro⟨p,hp,hd,e⟩;have hp:p<q.length:=by have:=QI h t _ abn ht p hp;omega
  have:=abh h hp hd;rw[show b=sZ q p from congrArg (·.1) e,show s=(nodeAt q p).2.2.2.1 from congrArg (·.2) e];exact this
theorem GY{q:List ak}(h:ay q=true):∃t,xw t/\zo t/\t.size=q.length/\textOf q=Lib.join (aI t) [32]/\gB (textOf q)=true/\fU (textOf q)=post t 0/\ay (post t 0)=true/\∀s b,s∈dV (post t 0) b↔s∈dV q b:=by
 have hl:=gW h;obtain⟨t,ht⟩:=aqs h (q.length-1) abn;have hw:=adA t _ ht;have ho:=adB h t _ abn ht;have hz:=anN h ht;have hq:=ajh hw ho abn;have hx:=TW h t (q.length-1) 9 abn abn ht;have e:textOf q=Lib.join (aI t) [32]:=by unfold textOf;rw[h,show((q.length:Int)-1)=((q.length-1:Nat):Int)from abn,hx];rfl
 obtain⟨n1,n2⟩:=CO t hw ho;obtain⟨g1,g2⟩:=adx (Ef t hw ho) (avx (avx (Jk _) n2) abn) abn;have hp:gB (textOf q)=true:=(TV _).2 ⟨by rw[e];exact g1,t,hw,hq,by rw[e];exact g2⟩;have ep:fU (textOf q)=post t 0:=by rw[(Ti hp).2.1,ajc hw hq (by rw[e];exact g2)]
 refine⟨t,hw,ho,hz,e,hp,ep,hq,λs b=>?_⟩;have hi:=Ub t [] [] hw;rw[avU,awo,avu,avV]at hi;rw[af9 h ht,af9 hq (t:=t) (by rw[eH];exact hi)]
end Sp
namespace Sp
open Go
abbrev IJ:=Bool×List bg×Unit
def ML:IJ:=(false,[],())
def arn(l:List bg)(x:bg):Bool:=l.any λy=>y.1==x.1
def aro(l:List bg)(x:bg):Bool:=l.any λy=>y.1==x.1&&!decide (y.2=x.2)
def anO(name:Bytes)(y:bg):Bool:=Op.bytesLess y.1 name
def atY(l:List bg)(x:bg):List bg:=l.takeWhile (anO x.1)++x::l.dropWhile (anO x.1)
def ajj(a:List bg):List bg->List bg->Option (List bg)
 |acc,[]=>some acc
 |acc,x::r=>bif aro a x then none else bif arn a x then ajj a acc r else ajj a (atY acc x) r
def asy:Option (List bg)->IJ
 |some l=>(true,l,())
 |none=>ML
def arp(a b:IJ):IJ:=bif a.1&&b.1 then asy (ajj a.2.1 a.2.1 b.2.1)else ML
def atZ(a b:IJ):IJ:=bif a.1==b.1 then ML else bif a.1 then a else b
def QJ(q:List ak)(f:aU)(X:BX)(a:Nat)(m:Bool):IJ:=
 if val q f X a=m then(true,[],())
 else if(nodeAt q a).1=5 then(if h:(nodeAt q a).2.1.toNat<a then QJ q f X (nodeAt q a).2.1.toNat (!m)else ML)
 else if iZ (nodeAt q a)=true then(if h:(nodeAt q a).2.1.toNat<a/\(nodeAt q a).2.2.1.toNat<a then
  (bif ((nodeAt q a).1==6)==m then arp (QJ q f X (nodeAt q a).2.1.toNat m) (QJ q f X (nodeAt q a).2.2.1.toNat m)
   else atZ (QJ q f X (nodeAt q a).2.1.toNat m) (QJ q f X (nodeAt q a).2.2.1.toNat m))else ML)
 else if(nodeAt q a).1=3/\m=true then(true,[((nodeAt q a).2.2.2.1,(nodeAt q a).2.2.2.2.1,(nodeAt q a).2.2.2.2.2.1,(nodeAt q a).2.2.2.2.2.2.1,())],())
 else if(nodeAt q a).1=2/\m=false then(true,[((nodeAt q a).2.2.2.1,0,0,[],())],())
 else ML
termination_by a
decreasing_by all_goals omega
end Sp
namespace Sp
open Go
def arq(a l:List bg):List bg:=l.foldl (λa x=>jV a x.1 x.2.1 x.2.2.1 x.2.2.2.1) a
def anP(l:List bg)(i:Nat):List bg:=l.take i++l.drop (i+1)
def edited(f:aU)(l:List bg):aU:=(f.1,f.2.1,f.2.2.1,f.2.2.2.1,arq f.2.2.2.2.1 l,())
theorem WO{fs:List dW}{f:aU}(h:dH fs f=true):kG fs f.2.2.2.2.1=true:=by unfold dH at h;simp only[avo]at h;exact h.1.1.1.1
end Sp
namespace Sp
open Go
theorem WN{s:eX}:bW s=true↔(∀f∈s.2.1,dH s.1 f=true/\f.1<s.2.2.1)/\(s.2.1.Pairwise λf g=>f.1<g.1)/\eG s.1=true/\s.2.1.length<=12/\1<=s.2.2.1/\s.2.2.1<=61:=by
 have at_:∀i(hi:i<s.2.1.length),fileAt s.2.1 i=s.2.1[i]:=λi hi=>by unfold fileAt;rw[avr,avv hi];rfl
 constructor
 .intro h;obtain⟨h1,h2,h3,h4,h5⟩:=oK.1 h;refine⟨λf hf=>?_,?_,h2,h3,h4,h5⟩
  .obtain⟨i,hi,rfl⟩:=al9 hf;obtain⟨k1,k2,_⟩:=nH.1 (h1 i hi);exact⟨k1,k2⟩
  .refine axx.2 λi j hi hj hij=>?_;have:=anH h j i hij hj
   rwa [at_ i hi,at_ j hj]at this
 .rintro⟨h1,h2,h3⟩;refine oK.2 ⟨λi hi=>nH.2 ⟨(h1 _ (ads hi)).1,(h1 _ (ads hi)).2,λh0=>?_⟩,h3⟩;rw[at_ i hi,at_ (i-1) abn];exact axx.1 h2 (i-1) i abn hi abn
open Classical in
noncomputable def anQ (fs:List aU) (d:List bC):List xQ:=if h:∃out,apC fs d [] (λ_=>true) out then h.choose else[]
noncomputable def aqt (s:eX) (d:List bC) (u:Int) (name:Bytes):List (Int×Unit):=Xu (anQ (visible s u).2.1 d) name
noncomputable def listed (s:eX) (d:List bC) (u:Int) (name:Bytes) (id:Int):Bool:=ahf (aqt s d u name) id
def akT(d:List bC)(name:Bytes):bC×Bool:=bif decide (aF d name<0)then(([],[],()),false)else(dm d (aF d name).toNat,true)
def ars(s:eX)(u id:Int):aU:=(TG (visible s u) id).1
def asz(q:List ak)(f:aU)(X:BX)(m:Bool):IJ:=bif ay q then QJ q f X (q.length-1) m else ML
noncomputable def amg (c:Ik) (u:Int) (name:Bytes) (id:Int) (b:Bool):IJ:=
 asz (akT (Kw c) name).1.2.1 (ars (Jh c) u id) (TL (anQ (visible (Jh c) u).2.1 (Kw c))) b
def ajk(c:Ik)(id:Int)(l:List bg):eX×Bool:=ajY (Jh c) (edited (TG (Jh c) id).1 l)
noncomputable def needed (c:Ik) (u:Int) (name:Bytes) (id:Int) (b:Bool) (l:List bg) (i:Nat):Bool:=
 (ajk c id (anP l i)).2&&!(listed (ajk c id (anP l i)).1 (Kw c) u name id==b)
noncomputable def aru (c:Ik) (u:Int) (name:Bytes) (id:Int) (b:Bool) (w:IJ):Bool:=
 w.1&&((ajk c id w.2.1).2&&((listed (ajk c id w.2.1).1 (Kw c) u name id==b)&&ji w.2.1.length (needed c u name id b w.2.1)))
noncomputable def at1 (c:Ik) (u:Int) (name:Bytes) (id:Int) (b:Bool):Bool:=
 (apD c&&(aoU c u id&&(akT (Kw c) name).2))&&aru c u name id b (amg c u name id b)
def written(c:Ik)(u:Int)(name:Bytes)(id:Int)(b:Bool)(c':Ik)(set:List bg)(ok:Bool):Prop:=
 ok=at1 c u name id b/\(ok=true->Jh c'=(ajk c id (amg c u name id b).2.1).1/\Kw c'=Kw c/\apD c'=true/\set=(amg c u name id b).2.1)/\(ok=false->c'=c/\set=[])
end Sp
namespace Sp
open Go
def iw:Bytes:=[102,105,101,108,100]
def qm:Bytes:=[110,101,120,116]
def jY:Bytes:=[100,105,114]
def J9:Bytes:=[105,110,116]
def rM:Bytes:=[115,116,114,105,110,103]
def dJ(f:dW):Bytes:=bif !dD f.1 then[]else bif f.2.1==1 then iw++32::(f.1++32::J9)else bif f.2.1==2 then iw++32::(f.1++32::rM)else[]
def jm(n:Int):Bytes:=qm++32::Lib.itoa n
def jk(d:bC):Bytes:=jY++32::(d.1++32::textOf d.2.1)
def kD(x:aV):List Bytes:=x.1.map dJ++(jm x.2.2.1::(x.2.1.map gu++x.2.2.2.1.map jk))
noncomputable def enc (x:aV):LS:=bif bT x then ls (kD x)else[]
def bZ:aV:=([],[],0,[],())
def lq(x:aV)(w:LS):aV×Bool:=
 bif wordAt w 0==iw&&decide ((w.length:Int)=3)then((x.1++[(wordAt w 1,(bif wordAt w 2==rM then 2 else 1),())],x.2.1,x.2.2.1,x.2.2.2.1,()),true)
 else bif wordAt w 0==qm&&decide ((w.length:Int)=2)then((x.1,x.2.1,parseNum (wordAt w 1),x.2.2.2.1,()),bf (wordAt w 1))
 else bif wordAt w 0==kC then((x.1,x.2.1++[(jB (w.drop 1)).1],x.2.2.1,x.2.2.2.1,()),(jB (w.drop 1)).2)
 else bif wordAt w 0==jY&&decide (2<(w.length:Int))then((x.1,x.2.1,x.2.2.1,x.2.2.2.1++[(wordAt w 1,fU (gy (w.drop 2)),())],()),gB (gy (w.drop 2)))
 else(x,false)
def gQ:aV->LS->aV×Bool
 |x,[]=>(x,true)
 |x,l::r=>bif (lq x (pieces 32 l.1)).2 then gQ (lq x (pieces 32 l.1)).1 r else((lq x (pieces 32 l.1)).1,false)
noncomputable def aiq (l:LS):aV×Bool:=bif (gQ bZ l).2&&(bT (gQ bZ l).1&&decide (enc (gQ bZ l).1=l))then((gQ bZ l).1,true)else(bZ,false)
def pz(x:aV)(w:LS):aV:=
 bif wordAt w 0==iw then(x.1++[(wordAt w 1,(bif wordAt w 2==J9 then 1 else 2),())],x.2.1,x.2.2.1,x.2.2.2.1,())
 else bif wordAt w 0==qm then(x.1,x.2.1,numAt w 1,x.2.2.2.1,())
 else bif wordAt w 0==kC then(x.1,x.2.1++[Dc (numAt w 1) (w.drop 2)],x.2.2.1,x.2.2.2.1,())
 else bif wordAt w 0==jY then(x.1,x.2.1,x.2.2.1,x.2.2.2.1++[(wordAt w 1,(bif decide (2<(w.length:Int))then fU (gy (w.drop 2))else[]),())],())
 else x
def jl:aV->LS->aV
 |x,[]=>x
 |x,l::r=>jl (pz x (gG l.1)) r
noncomputable def dec (l:LS):aV×Bool:=bif bT (jl bZ l)&&decide (enc (jl bZ l)=l)then(jl bZ l,true)else(bZ,false)
def vF(d:bC):bC:=(d.1,fU (textOf d.2.1),())
def norm(x:aV):aV:=(x.1,x.2.1,x.2.2.1,x.2.2.2.1.map vF,())
theorem GZ{ws:List Bytes}(h:∀x∈ws,fine x)(hl:qW ws<=600)(hc:ws.length<=24)(h0:ws≠[]):gG (Lib.join ws [32])=ls ws/\pieces 32 (Lib.join ws [32])=ls ws/\(Lib.join ws [32]).length<=600:=by have hb:=avx (Jk ws) hl;obtain⟨g1,g2⟩:=adx h hb hc;refine⟨by unfold gG;rw[g1,g2];rfl,ZF ws h0 λw hw x hx e=>?_,hb⟩;have:=(h w hw).1.2 x hx;rw[e]at this;exact absurd this abA
theorem anR{s:Bytes}(h:dD s=true):fine s:=tq (kX h)
theorem abb{s:Bytes}(h:dD s=true):s.length<=1:=by unfold dD at h;simp only[avo,avC]at h;omega
theorem XD(x y z:Bytes):x++32::(y++32::z)=Lib.join [x,y,z] [32]:=(acW x y z).symm
theorem adD{f:dW}(h1:dD f.1=true)(h2:f.2.1=1\/f.2.1=2)(x:aV):
 lq x (pieces 32 (dJ f))=((x.1++[f],x.2.1,x.2.2.1,x.2.2.2.1,()),true)/\pz x (gG (dJ f))=(x.1++[f],x.2.1,x.2.2.1,x.2.2.2.1,())/\(dJ f).length<=600/\(∃ws:List Bytes,dJ f=Lib.join ws [32]/\∀w∈ws,fine w):=by
 obtain⟨nm,k,⟨⟩⟩:=f;have hk:nm.length<=1:=abb h1;dsimp only at h1 h2;have hf:fine iw:=⟨⟨abA,abA⟩,abA⟩;have hn:=anR h1;rcases h2 with rfl|rfl
 .have e:dJ (nm,1,())=Lib.join [iw,nm,J9] [32]:=by unfold dJ;rw[h1,← XD];rfl
  have hi:fine J9:=⟨⟨abA,abA⟩,abA⟩;have all:∀w∈[iw,nm,J9],fine w:=λw hw=>by
   rcases avF.1 hw with rfl|hw
   .exact hf
   rcases avF.1 hw with rfl|hw
   .exact hn
   .rw[avP.1 hw];exact hi
  obtain⟨a,b,c⟩:=GZ all (by rw[fZ,fZ,fZ];show 5+1+(nm.length+1+(3+1+0))<=600;omega) (by show 3<=24;omega) acA;rw[e,a,b];exact⟨rfl,rfl,c,_,rfl,all⟩
 .have e:dJ (nm,2,())=Lib.join [iw,nm,rM] [32]:=by unfold dJ;rw[h1,← XD];rfl
  have hi:fine rM:=⟨⟨abA,abA⟩,abA⟩;have all:∀w∈[iw,nm,rM],fine w:=λw hw=>by
   rcases avF.1 hw with rfl|hw
   .exact hf
   rcases avF.1 hw with rfl|hw
   .exact hn
   .rw[avP.1 hw];exact hi
  obtain⟨a,b,c⟩:=GZ all (by rw[fZ,fZ,fZ];show 5+1+(nm.length+1+(6+1+0))<=600;omega) (by show 3<=24;omega) acA;rw[e,a,b];exact⟨rfl,rfl,c,_,rfl,all⟩
theorem aga{n:Int}(h:eu n=true)(x:aV):
 lq x (pieces 32 (jm n))=((x.1,x.2.1,n,x.2.2.2.1,()),true)/\pz x (gG (jm n))=(x.1,x.2.1,n,x.2.2.2.1,())/\(jm n).length<=600/\(∃ws:List Bytes,jm n=Lib.join ws [32]/\∀w∈ws,fine w):=by
 have e:jm n=Lib.join [qm,Lib.itoa n] [32]:=by rw[SY];rfl
 have all:∀w∈[qm,Lib.itoa n],fine w:=λw hw=>by
  rcases avF.1 hw with rfl|hw
  .exact⟨⟨abA,abA⟩,abA⟩
  .rw[avP.1 hw];exact Ji h
 have hl:=(iC h).2.2.2.2;obtain⟨a,b,c⟩:=GZ all (by rw[fZ,fZ];show 4+1+((Lib.itoa n).length+1+0)<=600;omega) (by show 2<=24;omega) acA;obtain⟨p1,p2⟩:=pG h;rw[e,a,b];refine⟨?_,?_,c,_,rfl,all⟩
 .show((x.1,x.2.1,parseNum (Lib.itoa n),x.2.2.2.1,()),bf (Lib.itoa n))=_;rw[p1,p2]
 .show(x.1,x.2.1,parseNum (Lib.itoa n),x.2.2.2.1,())=_;rw[p2]
theorem agb{f:aU}(h:CJ f=true)(ha:f.2.2.2.2.1.length<=5)(x:aV):
 lq x (pieces 32 (gu f))=((x.1,x.2.1++[f],x.2.2.1,x.2.2.2.1,()),true)/\pz x (gG (gu f))=(x.1,x.2.1++[f],x.2.2.1,x.2.2.2.1,())/\(gu f).length<=600/\(∃ws:List Bytes,gu f=Lib.join ws [32]/\∀w∈ws,fine w):=by
 have hid:=(xu.1 h).2.1;have hl:=(iC hid).2.2.2.2;obtain⟨b1,b2⟩:=anM h;have all:∀w∈kC::Lib.itoa f.1::jC f,fine w:=λw hw=>by
  rcases avF.1 hw with rfl|hw
  .exact⟨⟨abA,abA⟩,abA⟩
  rcases avF.1 hw with rfl|hw
  .exact Ji hid
  .exact anK h w hw
 obtain⟨a,b,c⟩:=GZ all (by rw[fZ,fZ];show 4+1+_<=600;omega) (by rw[avq,avq,b2];omega) acA;have e:gu f=Lib.join (kC::Lib.itoa f.1::jC f) [32]:=rfl;rw[e,a,b];refine⟨?_,?_,c,_,rfl,all⟩
 .show((x.1,x.2.1++[(jB ((Lib.itoa f.1,())::ls (jC f))).1],x.2.2.1,x.2.2.2.1,()),(jB ((Lib.itoa f.1,())::ls (jC f))).2)=_;rw[amf h]
 .show(x.1,x.2.1++[Dc (parseNum (Lib.itoa f.1)) (ls (jC f))],x.2.2.1,x.2.2.2.1,())=_;rw[(pG hid).2,af7 h]
theorem ajl{d:bC}(h1:aW d.1=true)(h2:ay d.2.1=true)(x:aV):
 lq x (pieces 32 (jk d))=((x.1,x.2.1,x.2.2.1,x.2.2.2.1++[vF d],()),true)/\pz x (gG (jk d))=(x.1,x.2.1,x.2.2.1,x.2.2.2.1++[vF d],())/\(jk d).length<=600/\(∃ws:List Bytes,jk d=Lib.join ws [32]/\∀w∈ws,fine w):=by
 obtain⟨t,hw,ho,hz,ht,hp,hq,_,_⟩:=GY h2;obtain⟨n1,n2⟩:=CO t hw ho;obtain⟨x0,r0,ew,_⟩:=ajb t;have hl9:=(gW h2).2;have hv:=qB h1;have e:jk d=Lib.join (jY::d.1::aI t) [32]:=by unfold jk;rw[ht,ew,jG,jG]
 have all:∀w∈jY::d.1::aI t,fine w:=λw hw2=>by
  rcases avF.1 hw2 with rfl|hw2
  .exact⟨⟨abA,abA⟩,abA⟩
  rcases avF.1 hw2 with rfl|hw2
  .exact tq h1
  .exact Ef t hw ho w hw2
 obtain⟨a,b,c⟩:=GZ all (by rw[fZ,fZ];show 3+1+_<=600;omega) (by rw[avq,avq];omega) acA;have ej:gy ((ls (jY::d.1::aI t)).drop 2)=textOf d.2.1:=by rw[ht];show gy (ls (aI t))=_;unfold gy;rw[aiS]
 have hlen:2<((ls (jY::d.1::aI t)).length:Int):=by unfold ls;rw[avI,ew,avq,avq,avq];omega
 rw[e,a,b];refine⟨?_,?_,c,_,rfl,all⟩
 .have:lq x (ls (jY::d.1::aI t))=bif decide (2<((ls (jY::d.1::aI t)).length:Int))then((x.1,x.2.1,x.2.2.1,x.2.2.2.1++[(d.1,fU (gy ((ls (jY::d.1::aI t)).drop 2)),())],()),gB (gy ((ls (jY::d.1::aI t)).drop 2)))else(x,false):=rfl
  rw[this,ej,avD hlen,hp];rfl
 .have:pz x (ls (jY::d.1::aI t))=(x.1,x.2.1,x.2.2.1,x.2.2.2.1++[(d.1,(bif decide (2<((ls (jY::d.1::aI t)).length:Int))then fU (gy ((ls (jY::d.1::aI t)).drop 2))else[]),())],()):=rfl;rw[this,ej,avD hlen];rfl
theorem Uc:∀(a:LS)(x:aV)(b:LS),(gQ x a).2=true->gQ x (a++b)=gQ (gQ x a).1 b
 |[],_,_,_=>rfl
 |l::r,x,b,h=>by
  rw[awD,gQ,gQ];rw[gQ]at h;cases hr:(lq x (pieces 32 l.1)).2 with
  |true=>rw[hr]at h;exact Uc r _ b h
  |false=>rw[hr]at h;cases h
theorem Ud:∀(a:LS)(x:aV)(b:LS),jl x (a++b)=jl (jl x a) b
 |[],_,_=>rfl
 |l::r,x,b=>by rw[awD,jl,jl];exact Ud r _ b
theorem Xi(a b:List Bytes):ls (a++b)=ls a++ls b:=by unfold ls;rw[aws]
theorem adE:∀(fs:List dW)(x:aV),(∀f∈fs,dD f.1=true/\(f.2.1=1\/f.2.1=2))->gQ x (ls (fs.map dJ))=((x.1++fs,x.2.1,x.2.2.1,x.2.2.2.1,()),true)/\jl x (ls (fs.map dJ))=(x.1++fs,x.2.1,x.2.2.1,x.2.2.2.1,())
 |[],x,_=>by rw[avU];exact⟨rfl,rfl⟩
 |f::r,x,h=>by
  obtain⟨a,b⟩:=h f avA;obtain⟨h1,h2,_⟩:=adD a b x;obtain⟨i1,i2⟩:=adE r (x.1++[f],x.2.1,x.2.2.1,x.2.2.2.1,()) λg hg=>h g (avy _ hg);refine⟨?_,?_⟩
  .show gQ x ((dJ f,())::ls (r.map dJ))=_;rw[gQ,h1];show gQ _ _=_;rw[i1,avE];rfl
  .show jl x ((dJ f,())::ls (r.map dJ))=_;rw[jl,h2,i2,avE];rfl
theorem agc:∀(fs:List aU)(x:aV),(∀f∈fs,CJ f=true/\f.2.2.2.2.1.length<=5)->gQ x (ls (fs.map gu))=((x.1,x.2.1++fs,x.2.2.1,x.2.2.2.1,()),true)/\jl x (ls (fs.map gu))=(x.1,x.2.1++fs,x.2.2.1,x.2.2.2.1,())
 |[],x,_=>by rw[avU];exact⟨rfl,rfl⟩
 |f::r,x,h=>by
  obtain⟨a,b⟩:=h f avA;obtain⟨h1,h2,_⟩:=agb a b x;obtain⟨i1,i2⟩:=agc r (x.1,x.2.1++[f],x.2.2.1,x.2.2.2.1,()) λg hg=>h g (avy _ hg);refine⟨?_,?_⟩
  .show gQ x ((gu f,())::ls (r.map gu))=_;rw[gQ,h1];show gQ _ _=_;rw[i1,avE];rfl
  .show jl x ((gu f,())::ls (r.map gu))=_;rw[jl,h2,i2,avE];rfl
theorem ajm:∀(ds:List bC)(x:aV),(∀d∈ds,aW d.1=true/\ay d.2.1=true)->gQ x (ls (ds.map jk))=((x.1,x.2.1,x.2.2.1,x.2.2.2.1++ds.map vF,()),true)/\jl x (ls (ds.map jk))=(x.1,x.2.1,x.2.2.1,x.2.2.2.1++ds.map vF,())
 |[],x,_=>by rw[show([]:List bC).map vF=[]from rfl,avU];exact⟨rfl,rfl⟩
 |d::r,x,h=>by
  obtain⟨a,b⟩:=h d avA;obtain⟨h1,h2,_⟩:=ajl a b x;obtain⟨i1,i2⟩:=ajm r (x.1,x.2.1,x.2.2.1,x.2.2.2.1++[vF d],()) λg hg=>h g (avy _ hg);refine⟨?_,?_⟩
  .show gQ x ((jk d,())::ls (r.map jk))=_;rw[gQ,h1];show gQ _ _=_;rw[i1,avE];rfl
  .show jl x ((jk d,())::ls (r.map jk))=_;rw[jl,h2,i2,avE];rfl
theorem Ag{x:aV}(h:bT x=true):(∀f∈x.1,dD f.1=true/\(f.2.1=1\/f.2.1=2))/\(∀f∈x.2.1,CJ f=true/\f.2.2.2.2.1.length<=5)/\eu x.2.2.1=true/\(∀d∈x.2.2.2.1,aW d.1=true/\ay d.2.1=true)/\x.1.length<=5/\x.2.1.length<=12/\x.2.2.2.1.length<=5:=by
 unfold bT at h;rw[avo]at h;obtain⟨hs,hd⟩:=h;obtain⟨s1,_,s3,s4,s5,s6⟩:=WN.1 hs;have s1:∀f∈x.2.1,dH x.1 f=true/\f.1<x.2.2.1:=s1;have s3:eG x.1=true:=s3;have s4:x.2.1.length<=12:=s4;have s5:1<=x.2.2.1:=s5;have s6:x.2.2.1<=61:=s6;obtain⟨d1,_,d3⟩:=KA.1 (lY.1 hd).1;obtain⟨k1,k2⟩:=WQ.1 s3;have kf:∀f∈x.1,dD f.1=true/\(f.2.1=1\/f.2.1=2):=λf hf=>by obtain⟨i,hi,e⟩:=awS hf;have:=k1 i hi;unfold jF fieldAt at this;rw[avr,avv hi,e]at this;simp only[axP,avo,awC,avS,avC]at this;exact⟨this.1.1,abn⟩
 refine⟨kf,λf hf=>?_,ig.2 abn,d1,k2,s4,d3⟩;obtain⟨f1,_⟩:=s1 f hf;have fa:=WO f1;have hl:=aiD fa;refine⟨xu.2 ⟨λa ha=>?_,?_⟩,abn⟩
 .have hm:=(Zy.1 fa).1 a ha;unfold jb at hm;simp only[avo,aw5,avC,av7]at hm;obtain⟨⟨m1,m2⟩,m3⟩:=hm;have hk:=TR (fs:=x.1) (s:=a.1) (by rw[← m3];exact m2);obtain⟨f',hf',e⟩:=awJ.1 hk;exact GX.2 ⟨by rw[← e];exact(kf f' hf').1,m1,m2⟩
 .unfold dH at f1;simp only[avo,avC]at f1;refine⟨ig.2 ?_,ig.2 ?_,ig.2 ?_⟩<;>omega
theorem Yd{x:aV}(h:bT x=true):gQ bZ (ls (kD x))=(norm x,true)/\jl bZ (ls (kD x))=norm x:=by
 obtain⟨p1,p2,p3,p4,_⟩:=Ag h;obtain⟨fs,gs,n,ds,⟨⟩⟩:=x;obtain⟨a1,a2⟩:=adE fs bZ p1;obtain⟨b1,b2,_⟩:=aga p3 (([]:List dW)++fs,[],0,[],());obtain⟨c1,c2⟩:=agc gs (([]:List dW)++fs,[],n,[],()) p2;obtain⟨d1,d2⟩:=ajm ds (([]:List dW)++fs,([]:List aU)++gs,n,[],()) p4;have e:ls (kD (fs,gs,n,ds,()))=ls (fs.map dJ)++((jm n,())::(ls (gs.map gu)++ls (ds.map jk))):=by unfold kD;rw[Xi];show _++((jm n,())::ls (gs.map gu++ds.map jk))=_;rw[Xi]
 rw[e];constructor
 .rw[Uc _ _ _ (by rw[a1]),a1,gQ];have b1':lq (([]:List dW)++fs,[],0,[],()) (pieces 32 (jm n))=_:=b1;show(bif (lq (([]:List dW)++fs,[],0,[],()) (pieces 32 (jm n))).2 then gQ (lq (([]:List dW)++fs,[],0,[],()) (pieces 32 (jm n))).1 _ else _)=_;rw[b1'];show gQ (([]:List dW)++fs,[],n,[],()) _=_;rw[Uc _ _ _ (by rw[c1]),c1];exact d1
 .rw[Ud,a2,jl];have b2':pz (([]:List dW)++fs,[],0,[],()) (gG (jm n))=_:=b2;show jl (pz (([]:List dW)++fs,[],0,[],()) (gG (jm n))) _=_;rw[b2',Ud];show jl (jl (([]:List dW)++fs,[],n,[],()) _) _=_;rw[c2];exact d2
theorem aj7{d:List bC}(h:ni d=true):ni (d.map vF)=true:=by
 obtain⟨h1,h2,h3⟩:=KA.1 h;refine KA.2 ⟨λx hx=>?_,?_,by rw[avI];exact h3⟩
 .obtain⟨y,hy,rfl⟩:=awJ.1 hx;obtain⟨t,_,_,_,_,_,ep,hq,_⟩:=GY (h1 y hy).2;refine⟨(h1 y hy).1,?_⟩;show ay (fU (textOf y.2.1))=true;rw[ep];exact hq
 .rw[ayw];exact h2
theorem XF(s:Bytes):∀(d:List bC)(k:Int),uf k (d.map vF) s=uf k d s
 |[],_=>rfl
 |x::r,k=>by rw[avK,uf,uf,XF s r];show(bif x.1==s then k else _)=_;rfl
theorem amh{d:List bC}{i:Nat}(hi:i<d.length):dm (d.map vF) i=vF (dm d i):=by unfold dm;rw[avr,avr,awn,avv hi];rfl
theorem ami{d:List bC}(h:ni d=true)(e:Nat×Nat×Nat):e∈dn (d.map vF)↔e∈dn d:=by
 obtain⟨h1,_,_⟩:=KA.1 h;unfold dn;rw[ayb,ayb,avI];refine exists_congr λi=>aw6 λhi=>?_;have hi:=awh.1 hi;obtain⟨t,_,_,_,_,_,ep,hq,at6⟩:=GY (h1 _ (akQ hi)).2;have eq:(dm (d.map vF) i).2.1=post t 0:=by rw[amh hi];exact ep
 have pl:∀s,aF (d.map vF) s=aF d s:=λs=>XF s d 0;rw[eq,avR,avR];have one:∀(b:Bool)(k:Nat),(e∈(dV (post t 0) b).filterMap λs=>bif decide (0<=aF (d.map vF) s)then some (i,(aF (d.map vF) s).toNat,k)else none)↔
  e∈(dV (dm d i).2.1 b).filterMap λs=>bif decide (0<=aF d s)then some (i,(aF d s).toNat,k)else none:=λb k=>by
  rw[axe,axe];refine exists_congr λs=>?_;rw[at6 s b,pl s]
 rw[one false 0,one true 1]
theorem amj{d:List bC}(h:dP d=true):dP (d.map vF)=true:=by obtain⟨h1,L,h2⟩:=lY.1 h;exact lY.2 ⟨aj7 h1,L,λe he=>h2 e ((ami h1 e).1 he)⟩
theorem IK{x:aV}(h:bT x=true):bT (norm x)=true:=by unfold bT at h ⊢;rw[avo]at h ⊢;exact⟨h.1,amj h.2⟩
theorem XG{x:aV}(h:bT x=true):kD (norm x)=kD x:=by
 obtain⟨_,_,_,p4,_⟩:=Ag h;unfold kD norm;dsimp only;have:(x.2.2.2.1.map vF).map jk=x.2.2.2.1.map jk:=by rw[awW];refine aw7 λd hd=>?_;obtain⟨t,hw,_,_,et,_,ep,hq,_⟩:=GY (p4 d hd).2;show jY++32::(d.1++32::textOf (fU (textOf d.2.1)))=_;rw[ep,(af5 hw hq).1,← et];rfl
 rw[this]
theorem Au{x:aV}(h:bT x=true):enc x=ls (kD x):=by unfold enc;rw[h];rfl
theorem anz{x:aV}(h:bT x=false):enc x=[]:=by unfold enc;rw[h];rfl
theorem aoz{x:aV}(h:bT x=true):enc (norm x)=enc x:=by rw[Au h,Au (IK h),XG h]
theorem amk{x:aV}(h:bT x=true):dec (enc x)=(norm x,true):=by unfold dec;rw[Au h,(Yd h).2,IK h,Au (IK h),XG h,avD rfl];rfl
theorem ajn{l:LS}(h:(dec l).2=true):bT (dec l).1=true/\enc (dec l).1=l/\norm (dec l).1=(dec l).1:=by
 unfold dec at h ⊢;cases hc:bT (jl bZ l)&&decide (enc (jl bZ l)=l)with
 |false=>rw[hc]at h;cases h
 |true=>rw[avo,avC]at hc;refine⟨hc.1,hc.2,?_⟩;show norm (jl bZ l)=jl bZ l;have:=(Yd hc.1).2;rw[← Au hc.1,hc.2]at this;exact this.symm
theorem ao5{l:LS}(h:(dec l).2=false):dec l=(bZ,false):=by
 unfold dec at h ⊢;cases hc:bT (jl bZ l)&&decide (enc (jl bZ l)=l)with
 |false=>rfl
 |true=>rw[hc]at h;cases h
theorem aaG(l:LS):aiq l=dec l:=by
 unfold aiq dec;cases h1:(gQ bZ l).2&&(bT (gQ bZ l).1&&decide (enc (gQ bZ l).1=l))with
 |true=>
  rw[avo,avo,avC]at h1;obtain⟨a,b,c⟩:=h1;obtain⟨e1,e2⟩:=Yd b;rw[← Au b,c]at e1 e2;have e3:jl bZ l=(gQ bZ l).1:=by rw[e2,show norm (gQ bZ l).1=(gQ bZ l).1 from(congrArg (·.1) e1).symm]
  rw[e3,b,c,avD rfl];rfl
 |false=>
  cases h2:bT (jl bZ l)&&decide (enc (jl bZ l)=l)with
  |false=>rfl
  |true=>
   rw[avo,avC]at h2;obtain⟨b,c⟩:=h2;obtain⟨e1,e2⟩:=Yd b;rw[← Au b,c]at e1 e2;have e3:(gQ bZ l).1=jl bZ l:=by rw[e1];exact e2.symm
   rw[e3,e1,b,c,avD rfl]at h1;cases h1
end Sp
namespace Sp
open Go
def sumOf(s:Bytes):Int:=s.foldl (λn b=>(33*n+(b.toNat:Int)).tmod 65521) 3
def linesT(ws:List Bytes):Bytes:=(ws.map (· ++[10])).flatten
def jv(n:Int)(x:aV):Bytes:=linesT (Lib.itoa n::kD x)
noncomputable def slot (n:Int) (x:aV):Bytes:=bif bT x&&(decide (1<=n)&&decide (n<=1000000000))then jv n x++(Lib.itoa (sumOf (jv n x))++[46])else[]
def inner(l:LS):LS:=(l.take (l.length-1)).drop 1
noncomputable def au (s:Bytes):Int×aV×Bool:=
 bif decide (2<=(pieces 10 s).length)&&((dec (inner (pieces 10 s))).2&&decide (slot (parseNum ((pieces 10 s).getD 0 ([],())).1) (dec (inner (pieces 10 s))).1=s))then(parseNum ((pieces 10 s).getD 0 ([],())).1,(dec (inner (pieces 10 s))).1,true)else(0,bZ,false)
def zN(l:LS):Prop:=l.length<=100/\∀x∈l,x.1.length<=1000
def qw(s:Bytes):LS:=(pieces 10 s).take ((pieces 10 s).length-1)
def aG(s:Bytes):Prop:=(pieces 10 s).length<=100/\∀x∈pieces 10 s,x.1.length<=1000
theorem Xp(s:Bytes):0<=sumOf s/\sumOf s<65521:=by
 have:∀(s:Bytes)(n:Int),0<=n->n<65521->0<=s.foldl (λn b=>(33*n+(b.toNat:Int)).tmod 65521) n/\s.foldl (λn b=>(33*n+(b.toNat:Int)).tmod 65521) n<65521:=by
  intro s
  induction s with
  |nil=>exactλn h1 h2=>⟨h1,h2⟩
  |cons b r ih=>intro n h1 h2;rw[ayI];exact ih _ (ayh _ abn) (Int.tmod_lt_of_pos _ abA)
 exact this s 3 abA abA
def pO(s:Bytes):Prop:=∀b∈s,b≠46
theorem ER{n:Int}(h:eu n=true):pO (Lib.itoa n):=λb hb e=>by have:=(iC h).2.2.1 b hb;rw[e]at this;exact absurd this.1 abA
theorem xB{s:Bytes}(h:aW s=true):pO s:=λb hb e=>by unfold aW lower at h;rw[avo,avo,avL]at h;have:=h.1.1 b hb;rw[e]at this;exact absurd this abA
theorem Jo(op:Int):pO (gq op):=by unfold gq;cases op==1<;>cases op==2<;>cases op==3<;>cases op==4<;>cases op==5<;>cases op==6<;>cases op==7<;>cases op==8<;>cases op==9<;>(intro b hb;revert b;decide)
theorem aff{v:Ed}(h:bJ v.1 v.2.1 v.2.2.1=true)(h0:v.1≠0):pO (bD v):=by
 rcases ama h h0 with⟨n,rfl,h1,h2⟩|⟨s,rfl,hs⟩
 .have:bD (1,n,[],())=Lib.itoa n:=by unfold bD;rw[h];rfl
  rw[this];exact ER (ig.2 abn)
 .have:bD (2,0,s,())=s:=by unfold bD;rw[h];rfl
  rw[this];exact xB hs
theorem Io:∀ws:List Bytes,(∀w∈ws,pO w)->pO (Lib.join ws [32])
 |[],_=>λb hb=>by cases hb
 |x::r,h=>by
  intro b hb;rw[Lib.join_cons]at hb;rcases avR.1 hb with hb|hb
  .exact h x avA b hb
  .have tail:∀r:List Bytes,(∀w∈r,pO w)->pO (Lib.joinTail [32] r):=by
    intro r
    induction r with
    |nil=>intro _ b hb;cases hb
    |cons y t ih=>
     intro h b hb;rw[Lib.joinTail]at hb;rcases avR.1 hb with hb|hb
     .rcases avR.1 hb with hb|hb
      .rw[avP.1 hb];decide
      .exact h y avA b hb
     .exact ih (λw hw=>h w (avy _ hw)) b hb
   exact tail r (λw hw=>h w (avy _ hw)) b hb
theorem agd:∀as:List bg,(∀a∈as,Jj a=true)->∀w∈dX as,pO w
 |[],_,w,hw=>by cases hw
 |a::r,h,w,hw=>by
  obtain⟨a1,a2,a3⟩:=GX.1 (h a avA);rcases avF.1 hw with rfl|hw
  .exact xB (kX a1)
  rcases avF.1 hw with rfl|hw
  .exact aff a2 a3
  .exact agd r (λb hb=>h b (avy _ hb)) w hw
theorem aml{n:ak}(h:dS n 0=true)(hw:n.1=1\/n.1=2\/n.1=3\/n.1=4\/n.1=8\/n.1=9):∀w∈jD n,pO w:=by
 obtain⟨op,l,r,s,v⟩:=n;unfold dS at h;rcases hw with rfl|rfl|rfl|rfl|rfl|rfl<;>simp at h<;>intro w hw2
 .rw[avP.1 hw2];exact Jo 1
 .rcases avF.1 hw2 with rfl|hw2
  .exact Jo 2
  .rw[avP.1 hw2];exact xB (kX h.2)
 .rcases avF.1 hw2 with rfl|hw2
  .exact Jo 3
  rcases avF.1 hw2 with rfl|hw2
  .exact xB (kX h.1.1.2)
  .rw[avP.1 hw2];exact aff h.1.2 h.2
 .rcases avF.1 hw2 with rfl|hw2
  .exact Jo 4
  rcases avF.1 hw2 with rfl|hw2
  .exact xB (kX h.1.1.2)
  .rw[avP.1 hw2];exact aff h.1.2 (by rw[h.2];decide)
 .rcases avF.1 hw2 with rfl|hw2
  .exact Jo 8
  .rw[avP.1 hw2];exact xB h.2
 .rcases avF.1 hw2 with rfl|hw2
  .exact Jo 9
  .rw[avP.1 hw2];exact xB h.2
theorem Oo:∀t:QT,xw t->zo t->∀w∈aI t,pO w
 |.leaf n,hw,ho,w,h=>aml ho hw w h
 |.neg t,hw,ho,w,h=>by
  rcases avF.1 h with rfl|h
  .exact Jo 5
  .exact Oo t hw ho w h
 |.two op a b,⟨_,w1,w2⟩,⟨o1,o2⟩,w,h=>by
  rcases avF.1 h with rfl|h
  .exact Jo op
  rcases avR.1 h with h|h
  .exact Oo a w1 o1 w h
  .exact Oo b w2 o2 w h
theorem FI{s:Bytes}(h:s.all (λb=>b !=46)=true):pO s:=λb hb e=>by have:=avL.1 h b hb;rw[e]at this;exact absurd this abA
def arv(l:Bytes):Prop:=l.length<=600/\(∀b∈l,b≠10)/\pO l
theorem ahh{ws:List Bytes}(h:∀w∈ws,fine w):∀b∈Lib.join ws [32],b≠10:=λb hb e=>by have:=avL.1 (akP ws λw hw=>(h w hw).2) b hb;rw[e]at this;exact absurd this abA
theorem FD{x:aV}(h:bT x=true):(∀l∈kD x,arv l)/\(kD x).length<=23:=by
 obtain⟨p1,p2,p3,p4,p5,p6,p7⟩:=Ag h;refine⟨λl hl=>?_,?_⟩
 .unfold kD at hl;rcases avR.1 hl with hl|hl
  .obtain⟨f,hf,rfl⟩:=awJ.1 hl;obtain⟨k1,k2⟩:=p1 f hf;obtain⟨_,_,c,ws,e,hw⟩:=adD k1 k2 x;refine⟨c,asG,?_⟩;unfold dJ;rw[k1];have d1:=xB (kX k1);rcases k2 with k|k<;>rw[k]
   .show pO (iw++32::(f.1++32::J9));rw[XD];refine Io _ λw hw=>?_;rcases avF.1 hw with rfl|hw
    .exact FI rfl
    rcases avF.1 hw with rfl|hw
    .exact d1
    .rw[avP.1 hw];exact FI rfl
   .show pO (iw++32::(f.1++32::rM));rw[XD];refine Io _ λw hw=>?_;rcases avF.1 hw with rfl|hw
    .exact FI rfl
    rcases avF.1 hw with rfl|hw
    .exact d1
    .rw[avP.1 hw];exact FI rfl
  rcases avF.1 hl with rfl|hl
  .obtain⟨_,_,c,ws,e,hw⟩:=aga p3 x;refine⟨c,asG,?_⟩;unfold jm;rw[← SY];refine Io _ λw hw=>?_;rcases avF.1 hw with rfl|hw
   .exact FI rfl
   .rw[avP.1 hw];exact ER p3
  rcases avR.1 hl with hl|hl
  .obtain⟨f,hf,rfl⟩:=awJ.1 hl;obtain⟨k1,k2⟩:=p2 f hf;obtain⟨_,_,c,ws,e,hw⟩:=agb k1 k2 x;refine⟨c,asG,?_⟩;obtain⟨v1,v2,v3,v4⟩:=xu.1 k1;refine Io _ λw hw=>?_;rcases avF.1 hw with rfl|hw
   .exact FI rfl
   rcases avF.1 hw with rfl|hw
   .exact ER v2
   rcases avF.1 hw with rfl|hw
   .exact ER v3
   rcases avF.1 hw with rfl|hw
   .cases f.2.2.1<;>exact FI rfl
   rcases avF.1 hw with rfl|hw
   .exact ER v4
   .exact agd _ v1 w hw
  .obtain⟨d,hd,rfl⟩:=awJ.1 hl;obtain⟨k1,k2⟩:=p4 d hd;obtain⟨_,_,c,ws,e,hw⟩:=ajl k1 k2 x;refine⟨c,asG,?_⟩;obtain⟨t,hwf,hot,_,ht,_⟩:=GY k2;unfold jk;rw[ht,XD];refine Io _ λw hw=>?_;rcases avF.1 hw with rfl|hw
   .exact FI rfl
   rcases avF.1 hw with rfl|hw
   .exact xB k1
   .rw[avP.1 hw];exact Io _ (Oo t hwf hot)
 .unfold kD;rw[avn,avq,avn,avI,avI,avI];omega
theorem UA:∀(ws:List Bytes)(t:Bytes),(∀w∈ws,∀b∈w,b≠10)->pieces 10 (linesT ws++t)=ls ws++pieces 10 t
 |[],_,_=>rfl
 |w::r,t,h=>by
  have e:linesT (w::r)++t=w++10::(linesT r++t):=by unfold linesT;simp
  rw[e,adz (h w avA),UA r t λv hv=>h v (avy _ hv)];rfl
theorem MC(s:Bytes):eu (sumOf s)=true:=by have:=Xp s;exact ig.2 abn
theorem KG{n:Int}{x:aV}(h:bT x=true)(h1:1<=n)(h2:n<=1000000000):slot n x=jv n x++(Lib.itoa (sumOf (jv n x))++[46]):=by unfold slot;rw[h,avD h1,avD h2];rfl
theorem Ye{n:Int}{x:aV}(h:slot n x≠[]):bT x=true/\1<=n/\n<=1000000000:=by
 unfold slot at h;cases hc:bT x&&(decide (1<=n)&&decide (n<=1000000000))with
 |false=>rw[hc]at h;exact absurd rfl h
 |true=>rw[avo,avo,avC,avC]at hc;exact⟨hc.1,hc.2.1,hc.2.2⟩
theorem akU{n:Int}(h:eu n=true):∀b∈Lib.itoa n,b≠10:=λb hb e=>by have:=(iC h).2.2.1 b hb;rw[e]at this;exact absurd this.1 abA
theorem ZH{n:Int}{x:aV}(h:bT x=true)(h1:1<=n)(h2:n<=1000000000):pieces 10 (slot n x)=ls (Lib.itoa n::kD x)++[(Lib.itoa (sumOf (jv n x))++[46],())]:=by
 have hn:eu n=true:=ig.2 abn;rw[KG h h1 h2];unfold jv;rw[UA _ _ λw hw=>?_,ZE λb hb=>?_]
 .rcases avR.1 hb with hb|hb
  .exact akU (MC _) b hb
  .rw[avP.1 hb];decide
 .rcases avF.1 hw with rfl|hw
  .exact akU hn
  .exact((FD h).1 w hw).2.1
theorem anS(a:Bytes×Unit)(l:LS)(b:Bytes×Unit):inner (a::(l++[b]))=l:=by unfold inner;rw[avq,avn,avq,avu,show l.length+(0+1)+1-1=l.length+1 from abn,awP,ayp,axb,ayL]
theorem anT{n:Int}{x:aV}(h:bT x=true):slot n (norm x)=slot n x:=by unfold slot jv;rw[h,IK h,XG h]
theorem ajo{n:Int}{x:aV}(h:bT x=true)(h1:1<=n)(h2:n<=1000000000):au (slot n x)=(n,norm x,true):=by have hn:eu n=true:=ig.2 abn;unfold au;rw[ZH h h1 h2];have e1:ls (Lib.itoa n::kD x)++[(Lib.itoa (sumOf (jv n x))++[46],())]=(Lib.itoa n,())::(ls (kD x)++[(Lib.itoa (sumOf (jv n x))++[46],())]):=rfl;rw[e1,anS,← Au h,amk h];have e2:((Lib.itoa n,())::(enc x++[(Lib.itoa (sumOf (jv n x))++[46],())])).getD 0 ([],())=(Lib.itoa n,()):=rfl;rw[e2];dsimp only;rw[(pG hn).2,anT h,avD rfl,avq,avn,avq,avD abn];rfl
theorem uO{s:Bytes}(h:(au s).2.2=false):au s=(0,bZ,false):=by
 unfold au at h ⊢;cases hc:decide (2<=(pieces 10 s).length)&&((dec (inner (pieces 10 s))).2&&decide (slot (parseNum ((pieces 10 s).getD 0 ([],())).1) (dec (inner (pieces 10 s))).1=s))with
 |false=>rfl
 |true=>rw[hc]at h;cases h
theorem MN{s:Bytes}(h:(au s).2.2=true):bT (au s).2.1=true/\1<=(au s).1/\(au s).1<=1000000000/\slot (au s).1 (au s).2.1=s/\norm (au s).2.1=(au s).2.1:=by
 unfold au at h ⊢;cases hc:decide (2<=(pieces 10 s).length)&&((dec (inner (pieces 10 s))).2&&decide (slot (parseNum ((pieces 10 s).getD 0 ([],())).1) (dec (inner (pieces 10 s))).1=s))with
 |false=>rw[hc]at h;cases h
 |true=>
  rw[avo,avo,avC,avC]at hc;obtain⟨a,b,c⟩:=hc;have hs:s≠[]:=λe=>by rw[e]at a;exact absurd a abA
  obtain⟨d1,d2,d3⟩:=Ye (n:=parseNum ((pieces 10 s).getD 0 ([],())).1) (x:=(dec (inner (pieces 10 s))).1) (by rw[c];exact hs);exact⟨d1,d2,d3,c,(ajn b).2.2⟩
theorem ao6{n:Int}{x:aV}(h:bT x=true)(hn:eu n=true):pO (jv n x):=by
 intro b hb;unfold jv linesT at hb;obtain⟨l,hl,hb⟩:=List.mem_flatten.1 hb;obtain⟨w,hw,rfl⟩:=awJ.1 hl;rcases avR.1 hb with hb|hb
 .rcases avF.1 hw with rfl|hw
  .exact ER hn b hb
  .exact((FD h).1 w hw).2.2 b hb
 .rw[avP.1 hb];decide
theorem agf{n:Int}{x:aV}{k:Nat}(hk:k<(slot n x).length):(au ((slot n x).take k)).2.2=false:=by
 cases hc:(au ((slot n x).take k)).2.2 with
 |false=>rfl
 |true=>
  obtain⟨a,b,c,d,_⟩:=MN hc;generalize (au ((slot n x).take k)).1=m at b c d;generalize (au ((slot n x).take k)).2.1=y at a d;have hne:slot n x≠[]:=λe=>by rw[e]at hk;exact absurd hk (awv _)
  obtain⟨h,h1,h2⟩:=Ye hne;have hn:eu n=true:=ig.2 abn;rw[KG a b c]at d;have hl:k=(jv m y++(Lib.itoa (sumOf (jv m y))++[46])).length:=by rw[d,avz];omega
  have hpos:0<k:=by rw[hl,avn,avn,avq];omega
  have e46:(slot n x)[k-1]? =some 46:=by
   have:((slot n x).take k)[k-1]? =some 46:=by
    rw[← d,← avE];have hl2:k=(jv m y++Lib.itoa (sumOf (jv m y))).length+1:=by rw[hl,← avE,avn];rfl
    rw[av1 abn,show k-1-(jv m y++Lib.itoa (sumOf (jv m y))).length=0 from abn];rfl
   rwa [awI abn]at this
  rw[KG h h1 h2,← avE]at e46;rw[KG h h1 h2,← avE]at hk;rw[awe (by simp at hk ⊢;omega)]at e46;have hm:=awc e46;rcases avR.1 hm with hm|hm
  .exact absurd rfl (ao6 h hn 46 hm)
  .exact absurd rfl (ER (MC _) 46 hm)
noncomputable def latest (a b:Bytes):Int×aV×Bool×Bool:=
 bif (au b).2.2&&(!(au a).2.2||decide ((au a).1<(au b).1))then((au b).1,(au b).2.1,true,false)else((au a).1,(au a).2.1,(au a).2.2,(au a).2.2)
theorem ajP(a b:Bytes):(bif (au a).2.2&&(!(au b).2.2||decide ((au a).1>=(au b).1))then((au a).1,(au a).2.1,true,true)else((au b).1,(au b).2.1,(au b).2.2,false))=latest a b:=by
 unfold latest;cases ha:(au a).2.2<;>cases hb:(au b).2.2
 .rw[uO ha,uO hb];rfl
 .rfl
 .rfl
 .rcases Int.lt_or_le (au a).1 (au b).1 with h|h
  .rw[avD h,avH (show ¬(au a).1>=(au b).1 from abn)];rfl
  .rw[avH (show ¬(au a).1<(au b).1 from abn),avD (show(au a).1>=(au b).1 from h)];rfl
theorem J8(a b:Bytes):0<=(latest a b).1/\(latest a b).1<=1000000000:=by
 have one:∀s,0<=(au s).1/\(au s).1<=1000000000:=λs=>by
  cases h:(au s).2.2 with
  |false=>rw[uO h];exact⟨abA,abA⟩
  |true=>obtain⟨_,b,c,_⟩:=MN h;omega
 unfold latest;cases (au b).2.2&&(!(au a).2.2||decide ((au a).1<(au b).1))with
 |false=>exact one a
 |true=>exact one b
def kept(keep:Int)(n:Nat):Nat:=(max 0 (min keep (n:Int))).toNat
theorem ap9(keep:Int)(n:Nat):kept keep n<=n:=by unfold kept;omega
noncomputable def dK (a b:Bytes) (x:aV):Bytes:=slot ((latest a b).1+1) x
noncomputable def dZ (a b:Bytes) (x:aV) (keep:Int):(Bytes×Bytes×Unit)×Bool×Unit:=
 bif dK a b x==[]then((a,b,()),false,())else
 bif (latest a b).2.2.2 then((a,(dK a b x).take (kept keep (dK a b x).length),()),(dK a b x).take (kept keep (dK a b x).length)==dK a b x,())else
 (((dK a b x).take (kept keep (dK a b x).length),b,()),(dK a b x).take (kept keep (dK a b x).length)==dK a b x,())
theorem akV{t:Bytes}{k:Nat}(h:(t.take k==t)=false):k<t.length:=by
 rcases avN k t.length with hl|hl
 .exact hl
 .rw[av6 hl]at h;simp at h
theorem asA{a b t:Bytes}(ht:au t=(0,bZ,false))(hf:(latest a b).2.2.2=true):(latest a t).1=(latest a b).1/\(latest a t).2.1=(latest a b).2.1/\(latest a t).2.2.1=(latest a b).2.2.1:=by
 unfold latest at hf ⊢;rw[ht];cases hb:(au b).2.2&&(!(au a).2.2||decide ((au a).1<(au b).1))with
 |true=>rw[hb]at hf;cases hf
 |false=>exact⟨rfl,rfl,rfl⟩
theorem asB{a b t:Bytes}(ht:au t=(0,bZ,false))(hf:(latest a b).2.2.2=false):(latest t b).1=(latest a b).1/\(latest t b).2.1=(latest a b).2.1/\(latest t b).2.2.1=(latest a b).2.2.1:=by
 unfold latest at hf ⊢;rw[ht];cases hb:(au b).2.2&&(!(au a).2.2||decide ((au a).1<(au b).1))with
 |true=>
  rw[avo]at hb;rw[hb.1];exact⟨rfl,rfl,rfl⟩
 |false=>
  rw[hb]at hf;have hf:(au a).2.2=false:=hf;rw[hf]at hb;have hb:(au b).2.2=false:=by
   cases hx:(au b).2.2 with
   |false=>rfl
   |true=>rw[hx]at hb;cases hb
  rw[hb,uO hf];exact⟨rfl,rfl,rfl⟩
theorem alQ{a b:Bytes}{x:aV}{keep:Int}(h:(dZ a b x keep).2.1=false):
 (latest (dZ a b x keep).1.1 (dZ a b x keep).1.2.1).1=(latest a b).1/\(latest (dZ a b x keep).1.1 (dZ a b x keep).1.2.1).2.1=(latest a b).2.1/\(latest (dZ a b x keep).1.1 (dZ a b x keep).1.2.1).2.2.1=(latest a b).2.2.1:=by
 unfold dZ at h ⊢;cases h0:dK a b x==[]with
 |true=>exact⟨rfl,rfl,rfl⟩
 |false=>
  rw[h0]at h;cases hf:(latest a b).2.2.2 with
  |true=>
   rw[hf]at h;exact asA (uO (agf (n:=(latest a b).1+1) (x:=x) (akV h))) hf
  |false=>rw[hf]at h;exact asB (uO (agf (n:=(latest a b).1+1) (x:=x) (akV h))) hf
theorem aiw{a b:Bytes}{x:aV}{keep:Int}(h:(dZ a b x keep).2.1=true):
 bT x=true/\latest (dZ a b x keep).1.1 (dZ a b x keep).1.2.1=((latest a b).1+1,norm x,true,!(latest a b).2.2.2):=by
 unfold dZ at h ⊢;cases h0:dK a b x==[]with
 |true=>rw[h0]at h;cases h
 |false=>
  rw[h0]at h;obtain⟨hx,h1,h2⟩:=Ye (avp.1 h0);have hd:=ajo hx h1 h2;refine⟨hx,?_⟩;cases hf:(latest a b).2.2.2 with
  |true=>
   rw[hf]at h;have he:(dK a b x).take (kept keep (dK a b x).length)=dK a b x:=avS.1 h;show latest a ((dK a b x).take _)=_;rw[he];unfold dK;rw[latest,hd];have:(latest a b).1=(au a).1:=by
    unfold latest at hf ⊢;cases hb:(au b).2.2&&(!(au a).2.2||decide ((au a).1<(au b).1))with
    |true=>rw[hb]at hf;cases hf
    |false=>rfl
   dsimp only;rw[this,avD abn,ayo,axj];rfl
  |false=>
   rw[hf]at h;have he:(dK a b x).take (kept keep (dK a b x).length)=dK a b x:=avS.1 h;show latest ((dK a b x).take _) b=_;rw[he];unfold dK;rw[latest,hd];dsimp only;have:(au b).2.2=true->(latest a b).1=(au b).1:=λhb=>by
    unfold latest at hf ⊢;rw[hb]at hf ⊢;cases hc:(!(au a).2.2||decide ((au a).1<(au b).1))with
    |true=>rfl
    |false=>rw[hc]at hf;have hf:(au a).2.2=false:=hf;rw[hf]at hc;cases hc
   cases hb:(au b).2.2 with
   |false=>rfl
   |true=>rw[← this hb,avH abn];rfl
end Sp
namespace Go.Fw
open Go
end Go.Fw
namespace Sp
open Go
theorem adF(s:Bytes):(aZ s).1.2.2.1.length<=s.length:=by
 unfold aZ;cases bf s with
 |true=>cases decide (parseNum s<=999)<;>exact avM _
 |false=>
  cases s==[45]with
  |true=>exact avM _
  |false=>cases aW s with
   |true=>exact avt _
   |false=>exact avM _
theorem QK(m:Nat):∀w:LS,(∀x∈w,x.1.length<=m)->2*(iL w).length<=w.length+1/\∀a∈iL w,a.1.length<=m/\a.2.2.2.1.length<=m
 |[],_=>⟨avM _,λa ha=>by cases ha⟩
 |[x],h=>⟨avt _,λa ha=>by
  rw[iL,avP]at ha;subst ha;exact⟨h x avA,avx (adF []) (avM _)⟩⟩
 |x::y::r,h=>by
  obtain⟨h1,h2⟩:=QK m r λz hz=>h z (avy _ (avy _ hz));refine⟨by show 2*((iL r).length+1)<=r.length+1+1+1;omega,λa ha=>?_⟩;rw[iL]at ha;rcases avF.1 ha with rfl|ha
  .exact⟨h x avA,avx (adF y.1) (h y (avy _ avA))⟩
  .exact h2 a ha
theorem adG(s:Bytes):(fU s).length<=9:=by
 cases h:gB s with
 |true=>exact(gW (Ti h).2.2).2
 |false=>unfold fU;rw[h];exact avM _
end Sp
namespace Sp
open Go
def ajp(m:Nat)(s:Bytes):Prop:=(pieces 10 s).length<=100/\∀x∈pieces 10 s,x.1.length<=m
theorem arw{m:Nat}{s:Bytes}(h:ajp m s)(hm:m<=1000):aG s:=⟨h.1,λx hx=>avx (h.2 x hx) hm⟩
theorem adH(b:UInt8):∀(l cur:Bytes),∃x∈dB b cur l,cur.length<=x.1.length
 |[],cur=>⟨(cur,()),avA,avt _⟩
 |c::r,cur=>by
  rw[dB];cases c==b with
  |true=>exact⟨(cur,()),avA,avt _⟩
  |false=>obtain⟨x,hx,hl⟩:=adH b r (cur++[c]);exact⟨x,hx,by rw[avn,avq]at hl;omega⟩
theorem Jz(b:UInt8)(m:Nat):∀(l cur:Bytes)(k:Nat),(∀x∈dB b cur l,x.1.length<=m)->(dB b cur (l.take k)).length<=(dB b cur l).length/\∀x∈dB b cur (l.take k),x.1.length<=m
 |l,cur,0,h=>by
  have hp:=MF b l cur;obtain⟨y,hy,hl⟩:=adH b l cur;rw[axy];refine⟨hp,λx hx=>?_⟩;have hx:x=(cur,()):=avP.1 hx;rw[hx];exact avx hl (h y hy)
 |[],cur,k+1,h=>⟨avt _,h⟩
 |c::r,cur,k+1,h=>by
  rw[awP];rw[dB]at h ⊢;rw[dB];cases hc:c==b with
  |true=>
   rw[hc]at h;obtain⟨i1,i2⟩:=Jz b m r [] k λx hx=>h x (avy _ hx);refine⟨ayG i1,λx hx=>?_⟩;rcases avF.1 hx with rfl|hx
   .exact h _ avA
   .exact i2 x hx
  |false=>rw[hc]at h;exact Jz b m r _ k h
theorem MO(b:UInt8):∀(l cur:Bytes),((dB b cur l).map λx=>x.1.length+1).sum=cur.length+l.length+1
 |[],cur=>by show cur.length+1+0=cur.length+0+1;omega
 |c::r,cur=>by
  rw[dB];cases c==b with
  |true=>
   show(((cur,())::dB b [] r).map λx=>x.1.length+1).sum=_;rw[avK,awt,MO b r [],avu,avq];show cur.length+1+_=_;omega
  |false=>show((dB b (cur++[c]) r).map λx=>x.1.length+1).sum=_;rw[MO b r,avn,avq,avq,avu];omega
theorem agh(m:Nat):∀l:LS,(∀x∈l,x.1.length<=m)->(l.map λx=>x.1.length+1).sum<=l.length*(m+1)
 |[],_=>avM _
 |a::r,h=>by have h1:=h a avA;have h2:=agh m r λx hx=>h x (avy _ hx);rw[avK,awt,avq,av8,ax8];omega
theorem aeE{s:Bytes}(h:aG s):s.length<=100100:=by have h1:=MO 10 s [];have h2:=agh 1000 _ h.2;have h3:(pieces 10 s).length*(1000+1)<=100*(1000+1):=avO _ h.1;have h4:((pieces 10 s).map λx=>x.1.length+1).sum=([]:Bytes).length+s.length+1:=h1;rw[avu]at h4;omega
theorem ao7{m:Nat}{s:Bytes}(h:ajp m s)(k:Nat):ajp m (s.take k):=by obtain⟨i1,i2⟩:=Jz 10 m s [] k h.2;exact⟨avx i1 h.1,i2⟩
theorem afS{s:Bytes}(h:aG s)(k:Nat):aG (s.take k):=ao7 (m:=1000) h k
theorem aiX(l:List Bytes):(ls l).length=l.length:=asR
theorem anU(n:Int)(x:aV):ajp 700 (slot n x):=by
 by_cases h:slot n x=[]
 .rw[h];refine⟨abA,λy hy=>?_⟩;have hy:y∈[(([]:Bytes),())]:=hy;rw[avP.1 hy];exact avM _
 .obtain⟨h0,h1,h2⟩:=Ye h;obtain⟨e1,e2⟩:=FD h0;have hn:=(iC (ig.2 (show 0<=n/\n<=1000000000 from abn))).2.2.2.2;have hs:=(iC (MC (jv n x))).2.2.2.2;unfold ajp;rw[ZH h0 h1 h2];refine⟨by rw[avn,aiX,avq,avq,avu];omega,λy hy=>?_⟩;rcases avR.1 hy with hy|hy
  .obtain⟨w,hw,rfl⟩:=awJ.1 hy;rcases avF.1 hw with rfl|hw
   .show(Lib.itoa n).length<=700;omega
   .have:=(e1 w hw).1;show w.length<=700;omega
  .rw[avP.1 hy,avn];show _+1<=700;omega
theorem ao8(n:Int)(x:aV):aG (slot n x):=arw (anU n x) abA
theorem Sr{x:aV}(h:bT x=true):bP x:=by obtain⟨p1,p2,p3,p4,p5,p6,p7⟩:=Ag h;refine⟨⟨avx p5 abA,avx p6 abA,λf hf=>avx (p2 f hf).2 abA⟩,avx p7 abA,λd hd=>avx (gW (p4 d hd).2).2 abA⟩
theorem adI:bP bZ:=⟨⟨abA,abA,λf hf=>by cases hf⟩,abA,λd hd=>by cases hd⟩
theorem afR(l:LS):bP (dec l).1:=by
 cases h:(dec l).2 with
 |false=>rw[ao5 h];exact adI
 |true=>exact Sr (ajn h).1
theorem Uw(s:Bytes):bP (au s).2.1:=by
 cases h:(au s).2.2 with
 |false=>rw[uO h];exact adI
 |true=>exact Sr (MN h).1
theorem WJ{a b:Bytes}{x:aV}{k:Int}(ha:aG a)(hb:aG b):aG (dZ a b x k).1.1/\aG (dZ a b x k).1.2.1:=by
 unfold dZ;cases dK a b x==[]with
 |true=>exact⟨ha,hb⟩
 |false=>
  have ht:aG ((dK a b x).take (kept k (dK a b x).length)):=afS (ao8 _ _) _;cases (latest a b).2.2.2 with
  |true=>exact⟨ha,ht⟩
  |false=>exact⟨ht,hb⟩
theorem al1(ws:List Bytes)(h:∀w∈ws,w.length<=600):(linesT ws).length<=ws.length*601:=by
 induction ws with
 |nil=>exact avM _
 |cons w r ih=>have h1:=h w avA;have h2:=ih λv hv=>h v (avy _ hv);have e:linesT (w::r)=(w++[10])++linesT r:=rfl;rw[e,avn,avn,avq,avq,avu,av8];omega
theorem Zu(ws:List Bytes)(w:Bytes):linesT (ws++[w])=linesT ws++(w++[10]):=by unfold linesT;simp
def Uu(n:Nat)(x:aV):Prop:=x.1.length<=n/\x.2.1.length<=n/\(∀f∈x.2.1,f.2.2.2.2.1.length<=1000)/\x.2.2.2.1.length<=n/\∀d∈x.2.2.2.1,d.2.1.length<=1000
theorem afP{n:Nat}{x:aV}(h:Uu n x)(hn:n<=1000):bP x:=⟨⟨avx h.1 hn,avx h.2.1 hn,h.2.2.1⟩,avx h.2.2.2.1 hn,h.2.2.2.2⟩
theorem agi{id:Int}{r:LS}(h:r.length<=1001)(hx:∀x∈r,x.1.length<=1000):(Dc id r).2.2.2.2.1.length<=1000:=by have:=(QK 1000 (r.drop 3) λx hm=>hx x (awU hm)).1;rw[avW]at this;show(iL (r.drop 3)).length<=1000;omega
theorem anV{w:LS}(h:w.length<=1001)(hx:∀x∈w,x.1.length<=1000):(jB w).1.2.2.2.2.1.length<=1000:=by
 unfold jB;cases decide ((w.length:Int)<4)||!(w.length%2==0)with
 |true=>exact avM _
 |false=>exact agi amS λx hm=>hx x (awU hm)
theorem Yf{α:Type}{p:α->Prop}{l:List α}{a:α}(h:∀x∈l,p x)(ha:p a):∀x∈l++[a],p x:=λx hx=>by
 rcases avR.1 hx with hx|hx
 .exact h x hx
 .rw[avP.1 hx];exact ha
theorem KJ{α:Type}{l:List α}{a:α}{n:Nat}(h:l.length<=n):(l++[a]).length<=n+1:=by rw[avn];exact ayG h
theorem ane{n:Nat}{x:aV}{w:LS}(h:Uu n x)(hw:w.length<=1001)(hx:∀y∈w,y.1.length<=1000):Uu (n+1) (lq x w).1:=by
 obtain⟨h1,h2,h3,h4,h5⟩:=h;unfold lq;cases wordAt w 0==iw&&decide ((w.length:Int)=3)with
 |true=>exact⟨KJ h1,av9 h2,h3,av9 h4,h5⟩
 |false=>
 cases wordAt w 0==qm&&decide ((w.length:Int)=2)with
 |true=>exact⟨av9 h1,av9 h2,h3,av9 h4,h5⟩
 |false=>
 cases wordAt w 0==kC with
 |true=>exact⟨av9 h1,KJ h2,Yf h3 (anV amS λy hy=>hx y (awU hy)),av9 h4,h5⟩
 |false=>
 cases wordAt w 0==jY&&decide (2<(w.length:Int))with
 |true=>exact⟨av9 h1,av9 h2,h3,KJ h4,Yf h5 (avx (adG _) abA)⟩
 |false=>exact⟨av9 h1,av9 h2,h3,av9 h4,h5⟩
theorem anj{n:Nat}{x:aV}{w:LS}(h:Uu n x)(hw:w.length<=1001)(hx:∀y∈w,y.1.length<=1000):Uu (n+1) (pz x w):=by
 obtain⟨h1,h2,h3,h4,h5⟩:=h;unfold pz;cases wordAt w 0==iw with
 |true=>exact⟨KJ h1,av9 h2,h3,av9 h4,h5⟩
 |false=>
 cases wordAt w 0==qm with
 |true=>exact⟨av9 h1,av9 h2,h3,av9 h4,h5⟩
 |false=>
 cases wordAt w 0==kC with
 |true=>exact⟨av9 h1,KJ h2,Yf h3 (agi amS λy hy=>hx y (awU hy)),av9 h4,h5⟩
 |false=>
 cases wordAt w 0==jY with
 |true=>
  refine⟨av9 h1,av9 h2,h3,KJ h4,Yf h5 ?_⟩;cases decide (2<(w.length:Int))with
  |true=>exact avx (adG _) abA
  |false=>exact avM _
 |false=>exact⟨av9 h1,av9 h2,h3,av9 h4,h5⟩
theorem air:Uu 0 bZ:=⟨avt _,avt _,λf hf=>(by cases hf),avt _,λd hd=>(by cases hd)⟩
theorem anc{l:LS}{n:Nat}(hn:n<l.length)(h:(gQ bZ (l.take n)).2=true):gQ bZ (l.take (n+1))=lq (gQ bZ (l.take n)).1 (pieces 32 (l.getD n ([],())).1):=by
 have e:l.take (n+1)=l.take n++[l.getD n ([],())]:=by rw[awu hn,avr,avv hn];rfl
 rw[e,Uc _ _ _ h,gQ];cases hr:(lq (gQ bZ (l.take n)).1 (pieces 32 (l.getD n ([],())).1)).2 with
 |true=>exact ayE rfl hr.symm
 |false=>exact ayE rfl hr.symm
theorem agj:∀(a:LS)(x:aV)(b:LS),(gQ x a).2=false->(gQ x (a++b)).2=false
 |[],_,_,h=>agk
 |l::r,x,b,h=>by
  rw[awD,gQ];rw[gQ]at h;cases hr:(lq x (pieces 32 l.1)).2 with
  |true=>rw[hr]at h;exact agj r _ b h
  |false=>rfl
theorem aoo{l:LS}{n:Nat}(h:(gQ bZ (l.take n)).2=false):dec l=(bZ,false):=by have:=agj (l.take n) bZ (l.drop n) h;rw[axa]at this;rw[← aaG];unfold aiq;rw[this];rfl
theorem ani{l:LS}{n:Nat}(hn:n<l.length):jl bZ (l.take (n+1))=pz (jl bZ (l.take n)) (gG (l.getD n ([],())).1):=by
 have e:l.take (n+1)=l.take n++[l.getD n ([],())]:=by rw[awu hn,avr,avv hn];rfl
 rw[e,Ud];rfl
theorem ajX(x:aV)(y k:Bytes):lq x [(iw,()),(y,()),(k,())]=((x.1++[(y,(bif k==rM then 2 else 1),())],x.2.1,x.2.2.1,x.2.2.2.1,()),true):=rfl
theorem al3(x:aV)(y:Bytes):lq x [(qm,()),(y,())]=((x.1,x.2.1,parseNum y,x.2.2.2.1,()),bf y):=rfl
theorem al4(x:aV)(r:LS):lq x ((kC,())::r)=((x.1,x.2.1++[(jB r).1],x.2.2.1,x.2.2.2.1,()),(jB r).2):=rfl
theorem anE(x:aV)(y:Bytes)(r:LS)(hr:0<r.length):lq x ((jY,())::(y,())::r)=((x.1,x.2.1,x.2.2.1,x.2.2.2.1++[(y,fU (gy r),())],()),gB (gy r)):=by
 have e:lq x ((jY,())::(y,())::r)=bif decide (2<((((jY,())::(y,())::r:LS).length:Nat):Int))then((x.1,x.2.1,x.2.2.1,x.2.2.2.1++[(y,fU (gy r),())],()),gB (gy r))else(x,false):=rfl
 rw[e,avD (by rw[avq,avq];omega)];rfl
theorem al5(x:aV)(x0:Bytes)(r:LS)(h1:¬(x0=iw/\r.length=2))(h2:¬(x0=qm/\r.length=1))(h3:¬x0=kC)(h4:¬(x0=jY/\2<=r.length)):lq x ((x0,())::r)=(x,false):=by
 unfold lq;have e0:wordAt ((x0,())::r) 0=x0:=eY _ _;rw[e0,avq];have f1:(x0==iw&&decide (((r.length+1:Nat):Int)=3))=false:=by
  rw[axt,avp,av7];by_cases e:x0=iw
  .exact .inr λg=>h1 ⟨e,abn⟩
  .exact .inl e
 have f2:(x0==qm&&decide (((r.length+1:Nat):Int)=2))=false:=by
  rw[axt,avp,av7];by_cases e:x0=qm
  .exact .inr λg=>h2 ⟨e,abn⟩
  .exact .inl e
 have f3:(x0==kC)=false:=avp.2 h3;have f4:(x0==jY&&decide (2<((r.length+1:Nat):Int)))=false:=by
  rw[axt,avp,av7];by_cases e:x0=jY
  .exact .inr λg=>h4 ⟨e,abn⟩
  .exact .inl e
 rw[f1,f2,f3,f4];rfl
end Sp
namespace Sp
open Go
end Sp
