import Derived.Test.YtncbcelpbmlgdaaGreatDoorFwA
import Derived.Lib.ItoaNum
import Derived.Lib.ItoaLen
import Derived.Lib.Join
import Derived.Test.YtncbcelpbmlgdaaGreatDoorFwC
import Derived.Lib.Fields
import Derived.Lib.Atoi
import Derived.Lib.SplitLaws
namespace Sp
open Go
abbrev Bytes:=List UInt8
abbrev LI:=List (Int×Unit)
abbrev LS:=List (Bytes×Unit)
theorem take_succ'{α:Type}(a:List α)(n:Nat)(d:α)(h:n<a.length):a.take (n+1)=a.take n++[a.getD n d]:=by rw[awf h,auS,auX h];rfl
def ade(l:LI):Prop:=∀x∈l,-9223372036854775808<=x.1/\x.1<=9223372036854775807
theorem ade.take{a:LI}(h:ade a)(n:Nat):ade (a.take n):=λx hx=>h x (awq hx)
theorem ade.get{a:LI}(h:ade a){n:Nat}(hn:n<a.length)(d:Int×Unit):(Lib.itoa (a.getD n d).1).length<=21:=by
 have:a.getD n d∈a:=by rw[auS,auX hn,axg];exact awg hn
 exact Lib.itoa_length_le _ (h _ this).1 (h _ this).2
theorem aeB(c:Nat):Lib.decDigits c=(if c / 10=0 then[]else Lib.decDigits (c / 10))++[UInt8.ofNat (48+c%10)]:=by
 conv=>lhs;rw[Lib.decDigits]
 by_cases h:c<10
 .rw[dif_pos h,if_pos (by omega),axZ h];rfl
 .rw[dif_neg h,if_neg (by omega)]
end Sp
namespace Sp
open Go
set_option synthInstance.maxSize 100000
set_option synthInstance.maxHeartbeats 1000000
abbrev CZ:=Int×Int×Bytes×Unit
abbrev aW:=Bytes×Int×Int×Bytes×Unit
abbrev ak:=Int×Int×Int×Bytes×Int×Int×Bytes×Unit
abbrev aS:=Int×Int×Bool×Int×List aW×Unit
abbrev bD:=Bytes×List ak×Unit
abbrev Bq:=Int×Int×Int×Bool×Int×List aW×Int×Bytes×List ak×Unit
instance:DecidableEq CZ:=inferInstance
instance:DecidableEq aW:=inferInstance
instance:DecidableEq ak:=inferInstance
instance:DecidableEq aS:=inferInstance
instance:DecidableEq bD:=inferInstance
instance:DecidableEq (Int×bD):=inferInstance
instance:DecidableEq (List aW×Int×bD):=inferInstance
instance:DecidableEq (Bool×Int×List aW×Int×bD):=inferInstance
instance atj:DecidableEq Bq:=(inferInstance:DecidableEq (Int×Int×Int×Bool×Int×List aW×Int×bD))
instance:DecidableEq (List Bq):=inferInstance
instance:DecidableEq (List Bq×Bytes×Int×Unit):=inferInstance
def lower(s:Bytes):Bool:=s.all λc=>decide (97<=c.toNat)&&decide (c.toNat<=122)
def aT(s:Bytes):Bool:=lower s&&decide (1<=(s.length:Int))&&decide ((s.length:Int)<=6)
def fZ(n:Int):Bool:=decide (0<=n)&&decide (n<=1000000000)
def idxFrom:Int->LI->Int
 |_,[]=>-1
 |k,x::r=>if fZ x.1 then idxFrom (k+1) r else k
def idxOf(l:LI):Int:=idxFrom 0 l
def aoh(k:Int)(nc:Nat):Bool:=decide (1<=k)&&decide (k<=8)&&decide ((nc:Int)<=6)
def Uk(k u:Int)(nc:Nat)(n:Bytes)(a:Int):Bytes:=
 bif !(aoh k nc)then[]else
 bif (decide ((nc:Int)>0)&&decide (k>2))then[]else
 bif (k==1&&(fZ u&&(a==0&&n==[])))then[99,111,109,109,105,116,32]++Lib.itoa u else
 bif (k==2&&(fZ u&&(fZ a&&n==[])))then[99,114,97,115,104,32]++Lib.itoa u++[32]++Lib.itoa a else
 bif (k==3&&(fZ u&&(aT n&&a==0)))then[119,97,116,99,104,32]++Lib.itoa u++[32]++n else
 bif (k==4&&(u==0&&(fZ a&&n==[])))then[112,105,110,32]++Lib.itoa a else
 bif (k==5&&(u==0&&(fZ a&&n==[])))then[117,110,112,105,110,32]++Lib.itoa a else
 bif (k==6&&(u==0&&(a==0&&n==[])))then[99,111,108,108,101,99,116]else
 bif (k==7&&(fZ u&&(fZ a&&aT n)))then[97,100,100,32]++Lib.itoa u++[32]++n++[32]++Lib.itoa a else
 bif (k==8&&(fZ u&&(fZ a&&aT n)))then[114,101,109,111,118,101,32]++Lib.itoa u++[32]++n++[32]++Lib.itoa a else[]
end Sp
namespace Sp
open Go
abbrev dR:=Bytes×Int×Unit
abbrev dZ:=List dR×List aS×Int×Unit
instance:DecidableEq dR:=inferInstance
instance:DecidableEq (List dR):=inferInstance
instance:DecidableEq (List aS):=inferInstance
instance:DecidableEq (List aS×Int×Unit):=inferInstance
instance atQ:DecidableEq dZ:=(inferInstance:DecidableEq (List dR×List aS×Int×Unit))
def usual:List dR:=[([97],1,()),([98],1,()),([110],2,()),([116],2,())]
def wV(f:aS):Prop:=f.2.2.2.2.1.length<=1000
def lZ(s:dZ):Prop:=s.1.length<=1000/\s.2.1.length<=1000/\∀f∈s.2.1,wV f
def jd(n:Nat)(f:Nat->Bool):Bool:=(List.range n).all f
def dB(s:Bytes):Bool:=lower s&&decide (1<=(s.length:Int))&&decide ((s.length:Int)<=1)
def bF(k n:Int)(s:Bytes):Bool:=
 bif decide (k=0)then decide (n=0)&&decide (s=[])
 else bif decide (k=1)then decide (0<=n)&&decide (n<=999)&&decide (s=[])
 else bif decide (k=2)then aT s&&decide (n=0)
 else false
def kindOf:List dR->Bytes->Int
 |[],_=>0
 |f::r,s=>bif decide (f.1=s)then f.2.1 else kindOf r s
def fieldAt(fs:List dR)(i:Nat):dR:=fs.getD i ([],0,())
def jC(fs:List dR)(i:Nat):Bool:=
 dB (fieldAt fs i).1&&(decide (1<=(fieldAt fs i).2.1)&&decide ((fieldAt fs i).2.1<=2))&&!(decide (0<i)&&!Op.bytesLess (fieldAt fs (i-1)).1 (fieldAt fs i).1)
def eF(fs:List dR):Bool:=jd fs.length (jC fs)&&decide ((fs.length:Int)<=5)
def iK(fs:List dR)(name:Bytes)(k n:Int)(s:Bytes):Bool:=bF k n s&&!decide (k=0)&&decide (k=kindOf fs name)
def bW(as:List aW)(i:Nat):aW:=as.getD i ([],0,0,[],())
def jJ(fs:List dR)(as:List aW)(i:Nat):Bool:=
 iK fs (bW as i).1 (bW as i).2.1 (bW as i).2.2.1 (bW as i).2.2.2.1&&!(decide (0<i)&&!Op.bytesLess (bW as (i-1)).1 (bW as i).1)
def ji(fs:List dR)(as:List aW):Bool:=jd as.length (jJ fs as)
def dG(fs:List dR)(f:aS):Bool:=
 ji fs f.2.2.2.2.1&&eF fs&&(decide (1<=f.1)&&decide (f.1<=60))&&(decide (0<=f.2.1)&&decide (f.2.1<=2))&&(decide (0<=f.2.2.2.1)&&decide (f.2.2.2.1<=60))
def fileAt(fs:List aS)(i:Nat):aS:=fs.getD i (0,0,false,0,[],())
def lg(s:dZ)(i:Nat):Bool:=
 dG s.1 (fileAt s.2.1 i)&&decide ((fileAt s.2.1 i).1<s.2.2.1)&&!(decide (0<i)&&!decide ((fileAt s.2.1 (i-1)).1<(fileAt s.2.1 i).1))
def bM(s:dZ):Bool:=
 jd s.2.1.length (lg s)&&eF s.1&&decide ((s.2.1.length:Int)<=12)&&(decide (1<=s.2.2.1)&&decide (s.2.2.1<=61))
def zU:Int->List aS->Int->Int
 |_,[],_=>-1
 |k,f::r,id=>bif decide (f.1=id)then k else zU (k+1) r id
def place(fs:List aS)(id:Int):Int:=zU 0 fs id
def apK(f:aS)(u:Int):Bool:=(decide (0<=u)&&decide (u<=2))&&(decide (f.2.1=u)||f.2.2.1)
def aoi(f:aS)(u:Int):Bool:=(decide (0<=u)&&decide (u<=2))&&decide (f.2.1=u)
def unlink(fs:List aS)(f:aS):aS:=(f.1,f.2.1,f.2.2.1,(bif decide (place fs f.2.2.2.1<0)then 0 else f.2.2.2.1),f.2.2.2.2.1,())
def visible(s:dZ)(u:Int):dZ:=
 let fs:=s.2.1.filter (apK · u)
 (s.1,fs.map (unlink fs),s.2.2.1,())
def aqH:aS:=(0,0,false,0,[],())
def Ul(s:dZ)(id:Int):aS×Bool:=
 bif decide (place s.2.1 id<0)then(aqH,false)else(fileAt s.2.1 (place s.2.1 id).toNat,true)
def nU(name:Bytes)(b:aW):Bool:=!(b.1==name)
def qI(name:Bytes)(b:aW):Bool:=Op.bytesLess b.1 name||b.1==name
def Lh(as:List aW)(a:aW):List aW:=as.takeWhile (qI a.1)++a::as.dropWhile (qI a.1)
def jb(as:List aW)(name:Bytes)(k n:Int)(s:Bytes):List aW:=
 bif decide (k=0)then as.filter (nU name)else Lh (as.filter (nU name)) (name,k,n,s,())
def bY(s:dZ)(f:aS):dZ×Int×Bool:=
 let g:aS:=(s.2.2.1,f.2)
 bif bM s&&decide ((s.2.1.length:Int)<12)&&dG s.1 g then((s.1,s.2.1++[g],s.2.2.1+1,()),s.2.2.1,true)else(s,0,false)
def ajs(s:dZ)(f:aS):dZ×Bool:=
 bif bM s&&!decide (place s.2.1 f.1<0)&&dG s.1 f then((s.1,s.2.1.set (place s.2.1 f.1).toNat f,s.2.2.1,()),true)else(s,false)
def fA(s:dZ)(id:Int):dZ×Bool:=
 bif bM s&&!decide (place s.2.1 id<0)then((s.1,s.2.1.eraseIdx (place s.2.1 id).toNat,s.2.2.1,()),true)else(s,false)
def aiv{α:Type}(p:α->Bool):Int->List α->Int
 |_,[]=>-1
 |k,f::r=>bif p f then k else aiv p (k+1) r
def findAt{α:Type}(p:α->Bool)(l:List α):Int:=aiv p 0 l
def fieldPlace(l:List dR)(name:Bytes):Int:=findAt (λf=>f.1==name) l
end Sp
namespace Sp
theorem aiw:∀(n m:Nat)(L:Nat->Nat),(∀k,k<m->∃j,j<n/\L j=k)->m<=n
 |0,m,L,h=>by
  rcases awC m with h0|h0
  .omega
  .obtain⟨j,hj,_⟩:=h 0 h0;omega
 |n+1,m,L,h=>by
  by_cases hv:L n<m
  .have:=aiw n (m-1) (λj=>if L n<L j then L j-1 else L j) λk hk=>by
    by_cases h1:k<L n
    .obtain⟨j,hj,e⟩:=h k (by omega);have:j≠n:=λe2=>by subst e2;omega
     exact⟨j,by omega,by show(if _ then _ else _)=_;rw[if_neg (by omega)];exact e⟩
    .obtain⟨j,hj,e⟩:=h (k+1) (by omega);have:j≠n:=λe2=>by subst e2;omega
     exact⟨j,by omega,by show(if _ then _ else _)=_;rw[if_pos (by omega)];omega⟩
   omega
  .have:=aiw n m L λk hk=>by
    obtain⟨j,hj,e⟩:=h k hk;have:j≠n:=λe2=>by subst e2;omega
    exact⟨j,by omega,e⟩
   omega
abbrev Um:=List (Nat×Nat×Nat)
def iT(E:Um)(L:Nat->Nat):Prop:=∀e∈E,L e.2.1+e.2.2<=L e.1
def aeO(E:Um)(n:Nat):Prop:=∀e∈E,e.1<n/\e.2.1<n/\e.2.2<=1
def sumTo(n:Nat)(L:Nat->Nat):Nat:=match n with|0=>0|n+1=>sumTo n L+L n
theorem sumTo_le{L M:Nat->Nat}:∀n,(∀i,i<n->L i<=M i)->sumTo n L<=sumTo n M
 |0,_=>auT _
 |n+1,h=>Nat.add_le_add (sumTo_le n λi hi=>h i (by omega)) (h n (by omega))
theorem aix{L M:Nat->Nat}:∀n,(∀i,i<n->L i<=M i)->(∃i,i<n/\L i<M i)->sumTo n L<sumTo n M
 |0,_,⟨i,hi,_⟩=>by omega
 |n+1,h,⟨i,hi,hl⟩=>by
  have h1:=sumTo_le n λj hj=>h j (aw8 hj);show sumTo n L+L n<sumTo n M+M n;by_cases e:i=n
  .subst e;omega
  .have:=aix n (λj hj=>h j (aw8 hj)) ⟨i,by omega,hl⟩;have:=h n (by omega);omega
theorem Q9{E:Um}{n:Nat}(hE:aeO E n):∀(s:Nat)(L:Nat->Nat),sumTo n L<=s->iT E L->∃M,iT E M/\∀i,i<n->M i<n
 |s,L,hs,hL=>by
  by_cases hall:∀i,i<n->L i<n
  .exact⟨L,hL,hall⟩
  .obtain⟨i,hi⟩:=Classical.not_forall.1 hall;have hi1:i<n/\n<=L i:=by
    by_cases h1:i<n
    .exact⟨h1,ax3 λh2=>hi λ_=>h2⟩
    .exact(hi λh2=>(h1 h2).elim).elim
   have atb:∃k,k<n/\∀j,j<n->L j≠k:=by
    refine av4 λhno=>?_;have:=aiw n (n+1) (λj=>min (L j) n) λk hk=>by
     by_cases h1:k<n
     .refine av4 λh2=>hno ⟨k,h1,λj hj e=>h2 ⟨j,hj,?_⟩⟩;show min (L j) n=k;omega
     .exact⟨i,hi1.1,by show min (L i) n=k;omega⟩
    omega
   obtain⟨k,hk,hno⟩:=atb;have hlt:sumTo n (λj=>if k<L j then L j-1 else L j)<sumTo n L:=by
    refine aix n (λj _=>?_) ⟨i,hi1.1,?_⟩
    .show(if _ then _ else _)<=_;split
     .exact Nat.sub_le _ _
     .exact auT _
    .show(if _ then _ else _)<_;rw[if_pos (by omega)];omega
   match s,hs with
   |0,hs=>omega
   |s+1,hs=>refine Q9 hE s (λj=>if k<L j then L j-1 else L j) (by omega) λe he=>?_;have h1:=hL e he;obtain⟨h2,h3,h4⟩:=hE e he;have n1:=hno e.1 h2;have n2:=hno e.2.1 h3;show(if k<L e.2.1 then L e.2.1-1 else L e.2.1)+e.2.2<=(if k<L e.1 then L e.1-1 else L e.1);split<;>split<;>omega
theorem MP{E:Um}{n:Nat}(hE:aeO E n)(h:∃L,iT E L):∃M,iT E M/\∀i,i<n->M i<n:=by obtain⟨L,hL⟩:=h;exact Q9 hE (sumTo n L) L (auT _) hL
structure Raises(E:Um)(n:Nat)(R:(Nat->Nat)->Nat->Nat):Prop where
 up:∀L i,L i<=R L i
 fix:∀L,(∀i,i<n->R L i=L i)->iT E L
 below:∀L M,iT E M->(∀i,i<n->L i<=M i)->∀i,i<n->R L i<=M i
 same:∀L L',(∀i,i<n->L i=L' i)->∀i,i<n->R L i=R L' i
end Sp
namespace Sp
open Go
abbrev aZ:=List dR×List aS×Int×List bD×Unit
abbrev aqI:=Int×List dR×List aS×Int×List bD×Int×Unit
instance:DecidableEq (List ak):=inferInstance
instance:DecidableEq bD:=inferInstance
instance:DecidableEq (List bD):=inferInstance
instance:DecidableEq (List bD×Unit):=inferInstance
instance:DecidableEq (Int×List bD×Unit):=inferInstance
instance:DecidableEq (List aS×Int×List bD×Unit):=inferInstance
instance auh:DecidableEq aZ:=(inferInstance:DecidableEq (List dR×List aS×Int×List bD×Unit))
instance:DecidableEq (List bD×Int×Unit):=inferInstance
instance:DecidableEq (Int×List bD×Int×Unit):=inferInstance
instance:DecidableEq (List aS×Int×List bD×Int×Unit):=inferInstance
instance:DecidableEq (List dR×List aS×Int×List bD×Int×Unit):=inferInstance
instance auu:DecidableEq aqI:=(inferInstance:DecidableEq (Int×List dR×List aS×Int×List bD×Int×Unit))
instance:DecidableEq (List aqI):=inferInstance
def nodeAt(q:List ak)(i:Nat):ak:=q.getD i (0,0,0,[],0,0,[],())
def iW(n:ak):Bool:=n.1==6||n.1==7
def pR(n:ak):Bool:=n.1==8||n.1==9
def dO(n:ak)(a:Int):Bool:=
 let kids:=decide (0<=n.2.1)&&decide (n.2.1<=a-1)&&decide (0<a)
 let two:=decide (0<=n.2.2.1)&&decide (n.2.2.1<=a-1)
 let bare:=n.2.2.2.1==[]&&(n.2.2.2.2.1==0&&(n.2.2.2.2.2.1==0&&n.2.2.2.2.2.2.1==[]))
 let flat:=n.2.1==0&&n.2.2.1==0
 let valued:=bF n.2.2.2.2.1 n.2.2.2.2.2.1 n.2.2.2.2.2.2.1
 let void:=n.2.2.2.2.1==0&&(n.2.2.2.2.2.1==0&&n.2.2.2.2.2.2.1==[])
 bif n.1==1 then flat&&bare else bif n.1==2 then flat&&void&&dB n.2.2.2.1 else
 bif n.1==3 then flat&&dB n.2.2.2.1&&valued&&!(n.2.2.2.2.1==0)else bif n.1==4 then flat&&dB n.2.2.2.1&&valued&&n.2.2.2.2.1==1 else
 bif n.1==5 then kids&&n.2.2.1==0&&bare else bif n.1==6||n.1==7 then kids&&two&&bare else
 bif n.1==8||n.1==9 then flat&&void&&aT n.2.2.2.1 else false
def refsOf(a:Int)(n:ak):Nat:=(bif (iW n||n.1==5)&&n.2.1==a then 1 else 0)+(bif iW n&&n.2.2.1==a then 1 else 0)
def gK(q:List ak)(a:Int):Nat:=(q.map (refsOf a)).sum
def kN(q:List ak)(i:Nat):Bool:=dO (nodeAt q i) i&&!(decide ((i:Int)<(q.length:Int)-1)&&!(gK q i==1))
def ax(q:List ak):Bool:=jd q.length (kN q)&&(decide (1<=(q.length:Int))&&decide ((q.length:Int)<=9))
def dm(d:List bD)(i:Nat):bD:=d.getD i ([],[],())
def kz(d:List bD)(i:Nat):Bool:=aT (dm d i).1&&ax (dm d i).2.1&&!(decide (0<i)&&!Op.bytesLess (dm d (i-1)).1 (dm d i).1)
def ny(d:List bD):Bool:=jd d.length (kz d)&&decide ((d.length:Int)<=5)
def jU(q:List ak)(i:Nat)(out:List (Bool×Unit)):List (Bool×Unit):=
 let n:=nodeAt q i
 bif n.1==5 then out.set n.2.1.toNat (true,())else bif iW n then(out.set n.2.1.toNat ((out.getD i (false,())).1,())).set n.2.2.1.toNat ((out.getD i (false,())).1,())else out
def iI(q:List ak):Nat->List (Bool×Unit)->List (Bool×Unit)
 |0,out=>out
 |n+1,out=>iI q n (jU q n out)
def negated(q:List ak):List (Bool×Unit):=bif ax q then iI q q.length (List.replicate q.length (false,()))else[]
def dU(q:List ak)(neg:Bool):List Bytes:=(List.range (negated q).length).filterMap λi=>bif pR (nodeAt q i)&&((negated q).getD i (false,())).1==neg then some (nodeAt q i).2.2.2.1 else none
def uS:Int->List bD->Bytes->Int
 |_,[],_=>-1
 |k,x::r,s=>bif x.1==s then k else uS (k+1) r s
def aC(d:List bD)(s:Bytes):Int:=uS 0 d s
def dn(d:List bD):Um:=
 (List.range d.length).flatMap λi=>
   ((dU (dm d i).2.1 false).filterMap λs=>bif decide (0<=aC d s)then some (i,(aC d s).toNat,0)else none)++
   ((dU (dm d i).2.1 true).filterMap λs=>bif decide (0<=aC d s)then some (i,(aC d s).toNat,1)else none)
open Classical in
noncomputable def dH (d:List bD):Bool:=ny d&&decide (∃L,iT (dn d) L)
def zS(x:aZ):dZ:=(x.1,x.2.1,x.2.2.1,())
noncomputable def bT (x:aZ):Bool:=bM (zS x)&&dH x.2.2.2.1
def jc(r:LS)(l:List Bytes):Prop:=r.length<=1000/\∀s,(s,())∈r↔s∈l
def xu(d:List bD)(aJ:List (Int×Unit))(more:Int):LS->Int
 |[]=>0
 |x::r=>max (bif decide (0<=aC d x.1)then(aJ.getD (aC d x.1).toNat (0,())).1+more else 0) (xu d aJ more r)
def OW(l:LS)(s:Bytes):LS:=
 let n:=(l.takeWhile λx=>Op.bytesLess x.1 s).length
 bif decide (n<l.length)&&(l.getD n ([],())).1==s then l else l.take n++[(s,())]++l.drop n
def raised(d:List bD)(aJ r:List (Int×Unit)):Prop:=
 r.length=d.length/\(∀i,i<d.length->(aJ.getD i (0,())).1<=(r.getD i (0,())).1)/\(∀B:Int,(∀i,i<d.length->(aJ.getD i (0,())).1<=B)->∀i,i<d.length->(r.getD i (0,())).1<=B+5000)/\
 ((∀i,i<d.length->(r.getD i (0,())).1=(aJ.getD i (0,())).1)->iT (dn d) λi=>(aJ.getD i (0,())).1.toNat)/\
 ∀M,iT (dn d) M->(∀i,i<d.length->(aJ.getD i (0,())).1<=M i)->∀i,i<d.length->(r.getD i (0,())).1<=M i
def eu(d:List bD):Prop:=d.length<=1000/\∀x∈d,x.2.1.length<=1000
def fB(x:aZ):Prop:=lZ (zS x)/\eu x.2.2.2.1
end Sp
namespace Sp
open Go
end Sp
namespace Sp
open Go
theorem XK(s:Bytes):∀(d:List bD)(k:Int),(uS k d s=-1/\∀x∈d,x.1≠s)\/∃n,n<d.length/\uS k d s=k+n/\(dm d n).1=s/\∀i,i<n->(dm d i).1≠s
 |[],k=>.inl ⟨rfl,λx hx=>by cases hx⟩
 |x::r,k=>by
  by_cases h:x.1=s
  .right;refine⟨0,by simp,?_,h,λi hi=>by omega⟩;rw[uS,avj.2 h];simp
  .rcases XK s r (k+1)with⟨h1,h2⟩|⟨n,h1,h2,h3,h4⟩
   .left;refine⟨by rw[uS,auP.2 h];exact h1,λy hy=>?_⟩;rcases au3.1 hy with rfl|hy
    .exact h
    .exact h2 y hy
   .right;refine⟨n+1,by simp;omega,by rw[uS,auP.2 h];show uS (k+1) r s=_;omega,h3,λi hi=>?_⟩;cases i with
    |zero=>exact h
    |succ i=>exact h4 i (by omega)
theorem Ii(d:List bD)(s:Bytes):(aC d s=-1/\∀x∈d,x.1≠s)\/∃n,n<d.length/\aC d s=n/\(dm d n).1=s/\∀i,i<n->(dm d i).1≠s:=by
 rcases XK s d 0 with h|⟨n,h1,h2,h3⟩
 .exact .inl h
 .exact .inr ⟨n,h1,by show uS 0 d s=_;omega,h3⟩
theorem IA{d:List bD}{s:Bytes}(h:0<=aC d s):aC d s<d.length:=by rcases Ii d s with⟨h1,_⟩|⟨n,h1,h2,_⟩<;>omega
theorem Fv{d:List bD}{i j m:Nat}:(i,j,m)∈dn d↔i<d.length/\∃s,((m=0/\s∈dU (dm d i).2.1 false)\/(m=1/\s∈dU (dm d i).2.1 true))/\0<=aC d s/\j=(aC d s).toNat:=by
 unfold dn;rw[axy];constructor
 .rintro⟨k,hk,h⟩;rw[avD]at hk;rcases avf.1 h with h|h
  all_goals
   obtain⟨s,hs,e⟩:=awD.1 h;rw[cond_eq_ite]at e;split at e
   .next hp=>have hp:0<=aC d s:=av2 hp;cases e;exact⟨hk,s,by first|exact .inl ⟨rfl,hs⟩|exact .inr ⟨rfl,hs⟩,hp,rfl⟩
   .cases e
 .rintro⟨hi,s,h|h,hp,rfl⟩
  .obtain⟨rfl,hs⟩:=h;refine⟨i,avD.2 hi,avf.2 (.inl (awD.2 ⟨s,hs,?_⟩))⟩;rw[au2 hp];rfl
  .obtain⟨rfl,hs⟩:=h;refine⟨i,avD.2 hi,avf.2 (.inr (awD.2 ⟨s,hs,?_⟩))⟩;rw[au2 hp];rfl
theorem kM(d:List bD):aeO (dn d) d.length:=by
 rintro⟨i,j,m⟩ he;obtain⟨h1,s,h2,h3,h4⟩:=Fv.1 he;have:=IA h3;refine⟨h1,?_,?_⟩
 .show j<_;omega
 .show m<=1;rcases h2 with⟨h,_⟩|⟨h,_⟩<;>omega
def lv(l:List (Int×Unit))(i:Nat):Int:=(l.getD i (0,())).1
theorem ahX{l:List (Int×Unit)}{i:Nat}(hi:i<l.length)(x:Int)(k:Nat):lv (l.set i (x,())) k=if k=i then x else lv l k:=by
 unfold lv;rw[auS,auS];by_cases h:k=i
 .subst h;rw[av5 hi,if_pos rfl];rfl
 .rw[avL (λe=>h e.symm),if_neg h]
theorem aiu{l:List (Int×Unit)}{i:Nat}(hi:i<l.length):(lv l i,())∈l:=by unfold lv;rw[auS,auX hi];exact awg hi
theorem amE{l:List (Int×Unit)}{p:Int->Prop}(h:∀i,i<l.length->p (lv l i)):∀x∈l,p x.1:=by intro x hx;obtain⟨i,hi,e⟩:=av9 hx;have:=h i hi;unfold lv at this;rw[auS,auX hi]at this;rw[← e];exact this
theorem aqm{a b:List (Int×Unit)}(hl:a.length=b.length)(h:∀i,i<a.length->lv a i=lv b i):a=b:=by refine axe hl λi h1 h2=>?_;have:=h i h1;unfold lv at this;rw[auS,auS,auX h1,auX h2]at this;exact ax2 this rfl
structure Ht(d:List bD)(aJ cur:List (Int×Unit))(g:Int)(P:Nat×Nat×Nat->Prop):Prop where
 len:cur.length=d.length
 up:∀i,i<d.length->lv aJ i<=lv cur i
 grow:∀B,(∀i,i<d.length->lv aJ i<=B)->∀i,i<d.length->lv cur i<=B+g
 fix:(∀i,i<d.length->lv cur i=lv aJ i)->∀e,P e->lv aJ e.2.1+e.2.2<=lv aJ e.1
 below:∀M,iT (dn d) M->(∀i,i<d.length->lv aJ i<=M i)->∀i,i<d.length->lv cur i<=M i
theorem Ht.start{d:List bD}{aJ:List (Int×Unit)}(h:aJ.length=d.length):Ht d aJ aJ 0 λ_=>False:=
 ⟨h,λ_ _=>avI _,λB hB i hi=>by have:=hB i hi;omega,λ_ e he=>he.elim,λ_ _ h=>h⟩
theorem Ht.weaken{d:List bD}{aJ cur:List (Int×Unit)}{g g':Int}{P P':Nat×Nat×Nat->Prop}(h:Ht d aJ cur g P)(hg:g<=g')(hP:∀e,P' e->P e):Ht d aJ cur g' P':=
 ⟨h.len,h.up,λB hB i hi=>by have:=h.grow B hB i hi;omega,λhx e he=>h.fix hx e (hP e he),h.below⟩
theorem Ht.still{d:List bD}{aJ cur:List (Int×Unit)}{g:Int}{P:Nat×Nat×Nat->Prop}(h:Ht d aJ cur g P){i j m:Nat}(he:(i,j,m)∈dn d)(hle:lv cur j+m<=lv cur i):Ht d aJ cur g λe=>P e\/e=(i,j,m):=by
 obtain⟨h1,h2,_⟩:=kM d _ he;refine⟨h.len,h.up,h.grow,λhx e hp=>?_,h.below⟩;rcases hp with hp|rfl
 .exact h.fix hx e hp
 .have a:=hx i h1;have b:=hx j h2;show lv aJ j+m<=lv aJ i;omega
theorem Ht.set{d:List bD}{aJ cur:List (Int×Unit)}{g:Int}{P:Nat×Nat×Nat->Prop}(h:Ht d aJ cur g P){i j m:Nat}(he:(i,j,m)∈dn d)(hlt:lv cur i<lv cur j+m):Ht d aJ (cur.set i (lv cur j+m,())) (g+m) λe=>P e\/e=(i,j,m):=by
 obtain⟨h1,h2,_⟩:=kM d _ he;have h1:i<d.length:=h1;have h2:j<d.length:=h2;have hl:=h.len;have hs:=λk=>ahX (l:=cur) (i:=i) (by omega) (lv cur j+m) k;refine⟨by simp;omega,λk hk=>?_,λB hB k hk=>?_,λhx e hp=>?_,λM hM hb k hk=>?_⟩
 .rw[hs];have a:=h.up k hk;split
  .next e=>subst e;omega
  .exact a
 .rw[hs];have a:=h.grow B hB k hk;have b:=h.grow B hB j h2;split<;>omega
 .have:=hx i h1;rw[hs,if_pos rfl]at this;have:=h.up i h1;omega
 .rw[hs];split
  .next e=>subst e;have a:=h.below M hM hb j h2;have b:=hM _ he;have b:M j+m<=M k:=b;omega
  .exact h.below M hM hb k hk
theorem Ht.raised{d:List bD}{aJ cur:List (Int×Unit)}{g:Int}{P:Nat×Nat×Nat->Prop}(h:Ht d aJ cur g P)(hg:g<=5000)(hP:∀e∈dn d,P e)(h0:∀i,i<d.length->0<=lv aJ i):raised d aJ cur:=by refine⟨h.len,h.up,λB hB i hi=>by have:=h.grow B hB i hi;show lv cur i<=_;omega,λhx e he=>?_,h.below⟩;have a:=h.fix hx e (hP e he);obtain⟨h1,h2,_⟩:=kM d _ he;have b:=h0 _ h1;have c:=h0 _ h2;show(lv aJ e.2.1).toNat+e.2.2<=(lv aJ e.1).toNat;omega
theorem adf(d:List bD)(aJ:List (Int×Unit))(hl:aJ.length=d.length):∀(E:Um),(∀e∈E,e∈dn d)->∃cur:List (Int×Unit),cur.length=d.length/\(∀i,i<d.length->lv aJ i<=lv cur i/\(lv cur i=lv aJ i\/∃e∈E,e.1=i/\lv cur i=lv aJ e.2.1+e.2.2))/\∀e∈E,lv aJ e.2.1+e.2.2<=lv cur e.1
 |[],_=>⟨aJ,hl,λi hi=>⟨avI _,.inl rfl⟩,λe he=>by cases he⟩
 |e::E,hE=>by
  obtain⟨cur,h1,h2,h3⟩:=adf d aJ hl E λx hx=>hE x (auZ _ hx);obtain⟨g1,g2,_⟩:=kM d e (hE e au0);by_cases h:lv cur e.1<lv aJ e.2.1+e.2.2
  .have hs:=λk=>ahX (l:=cur) (i:=e.1) (by omega) (lv aJ e.2.1+e.2.2) k;refine⟨cur.set e.1 (lv aJ e.2.1+e.2.2,()),by simp;omega,λi hi=>?_,λx hx=>?_⟩
   .rw[hs];have:=h2 i hi;split
    .next hi'=>exact⟨by rw[hi']at this ⊢;omega,.inr ⟨e,au0,hi'.symm,rfl⟩⟩
    .refine⟨this.1,this.2.imp_right λ⟨x,hx,hy⟩=>⟨x,auZ _ hx,hy⟩⟩
   .rw[hs];rcases au3.1 hx with rfl|hx
    .rw[if_pos rfl];omega
    .have:=h3 x hx;split
     .next he=>rw[he]at this;omega
     .exact this
  .refine⟨cur,h1,λi hi=>?_,λx hx=>?_⟩
   .have:=h2 i hi;exact⟨this.1,this.2.imp_right λ⟨x,hx,hy⟩=>⟨x,auZ _ hx,hy⟩⟩
   .rcases au3.1 hx with rfl|hx
    .omega
    .exact h3 x hx
theorem ajq(d:List bD)(aJ:List (Int×Unit))(hl:aJ.length=d.length)(h0:∀i,i<d.length->0<=lv aJ i):∃cur,raised d aJ cur:=by
 obtain⟨cur,h1,h2,h3⟩:=adf d aJ hl (dn d) λ_ h=>h;refine⟨cur,h1,λi hi=>(h2 i hi).1,λB hB i hi=>?_,λhx e he=>?_,λM hM hb i hi=>?_⟩
 .show lv cur i<=_;rcases(h2 i hi).2 with h|⟨e,he,rfl,h⟩
  .rw[h];have:=hB i hi;show(aJ.getD i (0,())).1<=_;omega
  .obtain⟨_,g2,g3⟩:=kM d e he;have:lv aJ e.2.1<=B:=hB _ g2;omega
 .obtain⟨g1,g2,_⟩:=kM d e he;have a:=h3 e he;have b:=h0 _ g1;have c:=h0 _ g2;have x:lv cur e.1=lv aJ e.1:=hx _ g1;show(lv aJ e.2.1).toNat+e.2.2<=(lv aJ e.1).toNat;omega
 .show lv cur i<=_;rcases(h2 i hi).2 with h|⟨e,he,rfl,h⟩
  .rw[h];exact hb i hi
  .obtain⟨_,g2,_⟩:=kM d e he;have a:lv aJ e.2.1<=M e.2.1:=hb _ g2;have b:=hM e he;omega
theorem Fq{d:List bD}{aJ:List (Int×Unit)}{more:Int}:∀(r:LS)(B:Int),xu d aJ more r<=B↔0<=B/\∀x∈r,0<=aC d x.1->lv aJ (aC d x.1).toNat+more<=B
 |[],B=>by simp[xu]
 |x::r,B=>by
  have ih:=Fq (d:=d) (aJ:=aJ) (more:=more) r B;rw[xu];have e:∀a b:Int,max a b<=B↔a<=B/\b<=B:=λa b=>by omega
  rw[e,ih];simp only[au3,forall_eq_or_imp];by_cases h:0<=aC d x.1
  .rw[au2 h];show lv aJ _+more<=B/\_↔_;constructor
   .exactλ⟨a,b,c⟩=>⟨b,λ_=>a,c⟩
   .exactλ⟨a,b,c⟩=>⟨b h,a,c⟩
  .rw[au6 h];show(0:Int)<=B/\_↔_;constructor
   .exactλ⟨a,b,c⟩=>⟨b,λh'=>(h h').elim,c⟩
   .exactλ⟨a,b,c⟩=>⟨a,a,c⟩
def xO(l:List (Int×Unit)):Nat->Int
 |0=>0
 |n+1=>xO l n+lv l n
theorem aaJ{a b:List (Int×Unit)}:∀n,(∀i,i<n->lv a i<=lv b i)->xO a n<=xO b n
 |0,_=>avI _
 |n+1,h=>Int.add_le_add (aaJ n λi hi=>h i (by omega)) (h n (by omega))
theorem aaI{a b:List (Int×Unit)}:∀n,(∀i,i<n->lv a i<=lv b i)->(∃i,i<n/\lv a i<lv b i)->xO a n<xO b n
 |0,_,⟨i,hi,_⟩=>by omega
 |n+1,h,⟨i,hi,hl⟩=>by
  have h1:=aaJ n λj hj=>h j (aw8 hj);show xO a n+lv a n<xO b n+lv b n;by_cases e:i=n
  .subst e;omega
  .have:=aaI n (λj hj=>h j (aw8 hj)) ⟨i,by omega,hl⟩;have:=h n (by omega);omega
theorem O9{a:List (Int×Unit)}{b:Nat}:∀n:Nat,(∀i,i<n->lv a i<=b)->xO a n<=(n*b:Nat)
 |0,_=>by simp[xO]
 |n+1,h=>by have h1:=O9 n λi hi=>h i (aw8 hi);have h2:=h n (by omega);show xO a n+lv a n<=((n+1)*b:Nat);rw[Nat.succ_mul];omega
theorem Xa{a:List (Int×Unit)}:∀n:Nat,(∀i,i<n->0<=lv a i)->0<=xO a n
 |0,_=>avI _
 |n+1,h=>Int.add_nonneg (Xa n λi hi=>h i (by omega)) (h n (by omega))
theorem lU{d:List bD}:dH d=true↔ny d=true/\∃L,iT (dn d) L:=by unfold dH;simp
theorem acu{d:List bD}(h:ny d=true):d.length<=5:=by unfold ny at h;simp only[auO,au1]at h;omega
end Sp
namespace Sp
abbrev Ext(ι α:Type):=ι->α->Bool
structure Sys(ι α:Type) where
 T:ι->Ext ι α->α->Prop
 pos:ι->ι->Prop
 neg:ι->ι->Prop
 mono:∀i X Y,(∀j,pos i j->∀x,X j x=true->Y j x=true)->(∀j,neg i j->∀x,X j x=Y j x)->∀x,T i X x->T i Y x
def arN{ι α:Type}(S:Sys ι α)(N:ι->Prop)(aJ:ι->Nat):Prop:=∀i j,N i->N j->(S.pos i j->aJ j<=aJ i)/\(S.neg i j->aJ j<aJ i)
structure Eval{ι α:Type}(S:Sys ι α)(N:ι->Prop)(aJ:ι->Nat)(X:Ext ι α):Prop where
 fix:∀i,N i->∀x,X i x=true↔S.T i X x
 least:∀k(Y:Ext ι α),(∀i,¬(N i/\aJ i=k)->∀x,Y i x=X i x)->(∀i,N i->aJ i=k->∀x,S.T i Y x->Y i x=true)->∀i,N i->aJ i=k->∀x,X i x=true->Y i x=true
open Classical in
theorem atl{ι α:Type}{P:ι->Prop}{A B:Ext ι α}:∃Y:Ext ι α,(∀i x,Y i x=true↔A i x=true/\(P i->B i x=true))/\∀i,¬P i->∀x,Y i x=A i x:=by have h:∀i x,decide (A i x=true/\(P i->B i x=true))=true↔A i x=true/\(P i->B i x=true):=λi x=>decide_eq_true_iff;refine⟨λi x=>decide (A i x=true/\(P i->B i x=true)),h,λi hi x=>?_⟩;rw[avp,h];exact⟨λh=>h.1,λh=>⟨h,λh'=>(hi h').elim⟩⟩
end Sp
namespace Sp
open Go
abbrev yE:=Bytes×List (Int×Unit)×Unit
abbrev BX:=Ext Bytes Int
def Ij:List aW->Bytes->CZ
 |[],_=>(0,0,[],())
 |a::r,s=>bif a.1==s then(a.2.1,a.2.2.1,a.2.2.2.1,())else Ij r s
def XL:List yE->Bytes->List (Int×Unit)
 |[],_=>[]
 |x::r,s=>bif x.1==s then x.2.1 else XL r s
def agP(l:List (Int×Unit))(x:Int):Bool:=l.any λy=>y.1==x
def Un(r:List yE):BX:=λs x=>agP (XL r s) x
def ER(n:ak)(f:aS)(X:BX):Bool:=
 bif n.1==2 then !((Ij f.2.2.2.2.1 n.2.2.2.1).1==0)else
 bif n.1==3 then decide (Ij f.2.2.2.2.1 n.2.2.2.1=(n.2.2.2.2.1,n.2.2.2.2.2.1,n.2.2.2.2.2.2.1,()))else
 bif n.1==4 then(Ij f.2.2.2.2.1 n.2.2.2.1).1==1&&decide ((Ij f.2.2.2.2.1 n.2.2.2.1).2.1<n.2.2.2.2.2.1)else
 bif n.1==8 then X n.2.2.2.1 f.1 else
 bif n.1==9 then !(f.2.2.2.1==0)&&X n.2.2.2.1 f.2.2.2.1 else true
def val(q:List ak)(f:aS)(X:BX)(a:Nat):Bool:=
 if(nodeAt q a).1=5 then(if h:(nodeAt q a).2.1.toNat<a then !val q f X (nodeAt q a).2.1.toNat else true)
 else if(nodeAt q a).1=6 then(if h:(nodeAt q a).2.1.toNat<a/\(nodeAt q a).2.2.1.toNat<a then val q f X (nodeAt q a).2.1.toNat&&val q f X (nodeAt q a).2.2.1.toNat else true)
 else if(nodeAt q a).1=7 then(if h:(nodeAt q a).2.1.toNat<a/\(nodeAt q a).2.2.1.toNat<a then val q f X (nodeAt q a).2.1.toNat||val q f X (nodeAt q a).2.2.1.toNat else true)
 else ER (nodeAt q a) f X
termination_by a
decreasing_by all_goals omega
theorem am6(q:List ak)(f:aS)(X:BX)(a:Nat):val q f X a=
 if(nodeAt q a).1=5 then(if h:(nodeAt q a).2.1.toNat<a then !val q f X (nodeAt q a).2.1.toNat else true)
 else if(nodeAt q a).1=6 then(if h:(nodeAt q a).2.1.toNat<a/\(nodeAt q a).2.2.1.toNat<a then val q f X (nodeAt q a).2.1.toNat&&val q f X (nodeAt q a).2.2.1.toNat else true)
 else if(nodeAt q a).1=7 then(if h:(nodeAt q a).2.1.toNat<a/\(nodeAt q a).2.2.1.toNat<a then val q f X (nodeAt q a).2.1.toNat||val q f X (nodeAt q a).2.2.1.toNat else true)
 else ER (nodeAt q a) f X:=by rw[val]
def Nk(q:List ak)(f:aS)(X:BX):Bool:=ax q&&val q f X (q.length-1)
def sel(fs:List aS)(q:List ak)(X:BX):List (Int×Unit):=(fs.filter λf=>Nk q f X).map λf=>(f.1,())
def uD(q:List ak)(i:Nat):Bool:=((negated q).getD i (false,())).1
theorem jK{q:List ak}(h:ax q=true){i:Nat}(hi:i<q.length):dO (nodeAt q i) i=true/\((i:Int)<(q.length:Int)-1->gK q i=1):=by
 unfold ax at h;rw[auO]at h;have h1:kN q i=true:=by have:=h.1;unfold jd at this;exact au9.1 this i (avD.2 hi)
 unfold kN at h1;rw[auO]at h1;refine⟨h1.1,λhl=>?_⟩;have h2:=h1.2;rw[au2 hl]at h2;simpa using h2
theorem gy{q:List ak}(h:ax q=true):1<=q.length/\q.length<=9:=by unfold ax at h;simp only[auO,au1]at h;omega
theorem ZA{n:ak}{a:Nat}(h:dO n a=true)(hn:n.1=5\/n.1=6\/n.1=7):0<=n.2.1/\n.2.1.toNat<a:=by unfold dO at h;rcases hn with e|e|e<;>simp[e]at h<;>omega
theorem KQ{n:ak}{a:Nat}(h:dO n a=true)(hn:n.1=6\/n.1=7):0<=n.2.2.1/\n.2.2.1.toNat<a:=by unfold dO at h;rcases hn with e|e<;>simp[e]at h<;>omega
theorem akf{α:Type}(g:α->Nat):∀(l:List α),(l.map g).sum=1->∀i j,i<l.length->j<l.length->i≠j->∀d,1<=g (l.getD i d)->g (l.getD j d)=0
 |[],_,i,_,hi,_,_,_,_=>by simp at hi
 |x::r,h,i,j,hi,hj,hne,d,hg=>by
  rw[au8,avT]at h;have mem:∀(l:List α) k,k<l.length->g (l.getD k d)<=(l.map g).sum:=by
   intro l
   induction l with
   |nil=>intro k hk;simp at hk
   |cons y t ih=>
    intro k hk;rw[au8,avT];cases k with
    |zero=>exact Nat.le_add_right _ _
    |succ k=>exact auU (ih k (by simpa using hk)) (Nat.le_add_left _ _)
  cases i with
  |zero=>
   cases j with
   |zero=>exact(hne rfl).elim
   |succ j=>
    have h1:1<=g x:=hg;have:=mem r j (by simpa using hj);show g (r.getD j d)=0;omega
  |succ i=>
   have h1:1<=g (r.getD i d):=hg;have h2:=mem r i (by simpa using hi);cases j with
   |zero=>show g x=0;omega
   |succ j=>exact akf g r (by omega) i j (by simpa using hi) (by simpa using hj) (by omega) d hg
theorem GL{q:List ak}{p:Nat}:∀(n:Nat)(out:List (Bool×Unit)),(∀i,i<n->((nodeAt q i).1=5\/iW (nodeAt q i)=true->(nodeAt q i).2.1.toNat≠p)/\(iW (nodeAt q i)=true->(nodeAt q i).2.2.1.toNat≠p))->
 (iI q n out).getD p (false,())=out.getD p (false,())
 |0,_,_=>rfl
 |n+1,out,h=>by
  have ih:=GL n (jU q n out) λi hi=>h i (by omega);show(iI q n (jU q n out)).getD p (false,())=_;rw[ih];have hs:∀(l:List (Bool×Unit)) k x,k≠p->(l.set k x).getD p (false,())=l.getD p (false,()):=λl k x hk=>by rw[auS,avL hk,← auS]
  obtain⟨h1,h2⟩:=h n (by omega);unfold jU;dsimp only;cases e5:((nodeAt q n).1==5)with
  |true=>exact hs _ _ _ (h1 (.inl (avj.1 e5)))
  |false=>
   cases e2:iW (nodeAt q n)with
   |true=>exact(hs _ _ _ (h2 e2)).trans (hs _ _ _ (h1 (.inr e2)))
   |false=>rfl
theorem Bo(q:List ak):∀(n:Nat)(out:List (Bool×Unit)),(iI q n out).length=out.length
 |0,_=>rfl
 |n+1,out=>by show(iI q n (jU q n out)).length=_;rw[Bo q n];unfold jU;dsimp only;cases (nodeAt q n).1==5<;>cases iW (nodeAt q n)<;>simp
theorem lq{n:ak}:iW n=true↔n.1=6\/n.1=7:=by unfold iW;simp
theorem U0(q:List ak):∀(k m:Nat)(out:List (Bool×Unit)),∃mid:List (Bool×Unit),mid.length=out.length/\iI q (m+k) out=iI q m mid
 |0,_,out=>⟨out,rfl,rfl⟩
 |k+1,m,out=>by
  obtain⟨mid,h1,h2⟩:=U0 q k m (jU q (m+k) out);have hl:(jU q (m+k) out).length=out.length:=by unfold jU;dsimp only;cases (nodeAt q (m+k)).1==5<;>cases iW (nodeAt q (m+k))<;>simp
  exact⟨mid,h1.trans hl,h2⟩
theorem l9{q:List ak}(h:ax q=true){i:Nat}(hi:i<q.length):((nodeAt q i).1=5\/iW (nodeAt q i)=true->0<=(nodeAt q i).2.1/\(nodeAt q i).2.1.toNat<i)/\(iW (nodeAt q i)=true->0<=(nodeAt q i).2.2.1/\(nodeAt q i).2.2.1.toNat<i):=by
 have h1:=(jK h hi).1;refine⟨λh2=>?_,λh2=>KQ h1 (lq.1 h2)⟩;rcases h2 with h2|h2
 .exact ZA h1 (.inl h2)
 .exact ZA h1 (.inr (lq.1 h2))
theorem alA{q:List ak}(h:ax q=true){i j p:Nat}(hi:i<q.length)(hj:j<q.length)(hne:i≠j)(hp:p<i)(hr:1<=refsOf p (nodeAt q i)):refsOf p (nodeAt q j)=0:=
 akf (refsOf p) q ((jK h (by omega)).2 (by omega)) i j hi hj hne _ hr
theorem ajt{p:Nat}{n:ak}(h:refsOf p n=0)(h0:((n.1=5\/iW n=true)->0<=n.2.1)/\(iW n=true->0<=n.2.2.1)):(n.1=5\/iW n=true->n.2.1.toNat≠p)/\(iW n=true->n.2.2.1.toNat≠p):=by
 unfold refsOf at h;refine⟨λh1 h2=>?_,λh1 h2=>?_⟩
 .have h3:=h0.1 h1;have h4:((iW n||n.1==5)&&n.2.1==(p:Int))=true:=by
   have:(iW n||n.1==5)=true:=by rcases h1 with h1|h1<;>simp[h1]
   rw[this];simp;omega
  rw[h4]at h;simp at h
 .have h3:=h0.2 h1;have h4:(iW n&&n.2.2.1==(p:Int))=true:=by rw[h1];simp;omega
  rw[h4]at h;simp at h
theorem ZB{p:Nat}{n:ak}(h:n.1=5\/iW n=true)(h0:0<=n.2.1)(e:n.2.1.toNat=p):1<=refsOf p n:=by
 unfold refsOf;have h4:((iW n||n.1==5)&&n.2.1==(p:Int))=true:=by
  have:(iW n||n.1==5)=true:=by rcases h with h1|h1<;>simp[h1]
  rw[this];simp;omega
 rw[h4];simp
theorem aiy{p:Nat}{n:ak}(h:iW n=true)(h0:0<=n.2.2.1)(e:n.2.2.1.toNat=p):1<=refsOf p n:=by
 unfold refsOf;have h4:(iW n&&n.2.2.1==(p:Int))=true:=by rw[h];simp;omega
 rw[h4];simp
theorem Uo{l:List (Bool×Unit)}{k p:Nat}{x:Bool×Unit}(hk:k<l.length):(l.set k x).getD p (false,())=if k=p then x else l.getD p (false,()):=by
 rw[auS,List.getElem?_set];by_cases h:k=p
 .subst h;simp[hk]
 .simp[h]
theorem Ur{q:List ak}(h:ax q=true){i:Nat}(hi:i<q.length):
 ((nodeAt q i).1=5->uD q (nodeAt q i).2.1.toNat=true)/\(iW (nodeAt q i)=true->uD q (nodeAt q i).2.1.toNat=uD q i/\uD q (nodeAt q i).2.2.1.toNat=uD q i):=by
 have hn:negated q=iI q q.length (List.replicate q.length (false,())):=by unfold negated;rw[h];rfl
 obtain⟨mid,hm1,hm2⟩:=U0 q (q.length-(i+1)) (i+1) (List.replicate q.length (false,()));rw[show i+1+(q.length-(i+1))=q.length by omega,← hn]at hm2;have hml:mid.length=q.length:=by rw[hm1];simp
 have hm3:negated q=iI q i (jU q i mid):=hm2;obtain⟨k1,k2⟩:=l9 h hi;have keep:∀p,p<i->1<=refsOf p (nodeAt q i)->uD q p=((jU q i mid).getD p (false,())).1:=λp hp hr=>by
  unfold uD;rw[hm3,GL i];intro j hj;have hjl:j<q.length:=by omega
  obtain⟨g1,g2⟩:=l9 h hjl;exact ajt (alA h hi hjl (by omega) hp hr) ⟨λz=>(g1 z).1,λz=>(g2 z).1⟩
 have self:uD q i=(mid.getD i (false,())).1:=by unfold uD;rw[hm2,GL (i+1)];intro j hj;obtain⟨g1,g2⟩:=l9 h (show j<q.length by omega);exact⟨λz=>by have:=(g1 z).2;omega,λz=>by have:=(g2 z).2;omega⟩
 refine⟨λh5=>?_,λh2=>?_⟩
 .obtain⟨a,b⟩:=k1 (.inl h5);rw[keep _ b (ZB (.inl h5) a rfl)];unfold jU;dsimp only;rw[avj.2 h5];show((mid.set _ (true,())).getD _ (false,())).1=true;rw[Uo (by omega),if_pos rfl]
 .obtain⟨a,b⟩:=k1 (.inr h2);obtain⟨a',b'⟩:=k2 h2;have h5:((nodeAt q i).1==5)=false:=by rcases lq.1 h2 with e|e<;>rw[e]<;>rfl
  rw[keep _ b (ZB (.inr h2) a rfl),keep _ b' (aiy h2 a' rfl),self];unfold jU;dsimp only;rw[h5,h2];show(((mid.set _ ((mid.getD i (false,())).1,())).set _ ((mid.getD i (false,())).1,())).getD _ (false,())).1=_/\(((mid.set _ ((mid.getD i (false,())).1,())).set _ ((mid.getD i (false,())).1,())).getD _ (false,())).1=_;rw[Uo (by rw[avn];omega),Uo (by omega),Uo (by rw[avn];omega),if_pos rfl,if_pos rfl];exact⟨by split<;>rfl,rfl⟩
theorem adg{q:List ak}(h:ax q=true):uD q (q.length-1)=false:=by
 have hn:negated q=iI q q.length (List.replicate q.length (false,())):=by unfold negated;rw[h];rfl
 have hl:=gy h;unfold uD;rw[hn,GL q.length]
 .rw[auS,aw3];split<;>rfl
 .intro j hj;obtain⟨g1,g2⟩:=l9 h hj;exact⟨λz=>by have:=(g1 z).2;omega,λz=>by have:=(g2 z).2;omega⟩
theorem abd{q:List ak}(h:ax q=true){i:Nat}(hi:i<q.length)(hd:pR (nodeAt q i)=true):(nodeAt q i).2.2.2.1∈dU q (uD q i):=by
 have hl:(negated q).length=q.length:=by unfold negated;rw[h];show(iI _ _ _).length=_;rw[Bo];simp
 unfold dU;rw[awD];refine⟨i,avD.2 (by omega),?_⟩;unfold uD;rw[hd];simp
theorem aoj{q:List ak}{f:aS}{X Y:BX}(h:ax q=true)(hp:∀s∈dU q false,∀x,X s x=true->Y s x=true)(hn:∀s∈dU q true,∀x,X s x=Y s x):
 ∀a,a<q.length->(uD q a=false->val q f X a=true->val q f Y a=true)/\(uD q a=true->val q f X a=val q f Y a):=by
 intro a
 induction a using Nat.strongRecOn with
 |_ a ih=>
  intro ha;obtain⟨k1,k2⟩:=l9 h ha;obtain⟨n1,n2⟩:=Ur h ha;rw[am6 q f X a,am6 q f Y a];by_cases h5:(nodeAt q a).1=5
  .have hk:=k1 (.inl h5);have i1:=(ih _ hk.2 (by omega)).2 (n1 h5);rw[if_pos h5,if_pos h5,dif_pos hk.2,dif_pos hk.2,i1];exact⟨λ_=>id,λ_=>rfl⟩
  rw[if_neg h5,if_neg h5];by_cases h6:(nodeAt q a).1=6
  .have h2:iW (nodeAt q a)=true:=lq.2 (.inl h6);have hk:=k1 (.inr h2);have hk':=k2 h2;have i1:=ih _ hk.2 (by omega);have i2:=ih _ hk'.2 (by omega);rw[(n2 h2).1]at i1;rw[(n2 h2).2]at i2;rw[if_pos h6,if_pos h6,dif_pos ⟨hk.2,hk'.2⟩,dif_pos ⟨hk.2,hk'.2⟩];refine⟨λhf hv=>?_,λht=>by rw[i1.2 ht,i2.2 ht]⟩;rw[auO]at hv ⊢;exact⟨i1.1 hf hv.1,i2.1 hf hv.2⟩
  rw[if_neg h6,if_neg h6];by_cases h7:(nodeAt q a).1=7
  .have h2:iW (nodeAt q a)=true:=lq.2 (.inr h7);have hk:=k1 (.inr h2);have hk':=k2 h2;have i1:=ih _ hk.2 (by omega);have i2:=ih _ hk'.2 (by omega);rw[(n2 h2).1]at i1;rw[(n2 h2).2]at i2;rw[if_pos h7,if_pos h7,dif_pos ⟨hk.2,hk'.2⟩,dif_pos ⟨hk.2,hk'.2⟩];refine⟨λhf hv=>?_,λht=>by rw[i1.2 ht,i2.2 ht]⟩;rw[avW]at hv ⊢;exact hv.imp (i1.1 hf) (i2.1 hf)
  rw[if_neg h7,if_neg h7];by_cases h8:(nodeAt q a).1=8
  .have hm:=abd h ha (by unfold pR;simp[h8]);unfold ER;simp only[h8];refine⟨λhf hv=>?_,λht=>?_⟩
   .rw[hf]at hm;exact hp _ hm _ hv
   .rw[ht]at hm;exact hn _ hm _
  by_cases h9:(nodeAt q a).1=9
  .have hm:=abd h ha (by unfold pR;simp[h9]);unfold ER;simp only[h9];refine⟨λhf hv=>?_,λht=>?_⟩
   .rw[hf]at hm;have hv:(!((f.2.2.2.1==0))&&X (nodeAt q a).2.2.2.1 f.2.2.2.1)=true:=hv;rw[auO]at hv;show(!((f.2.2.2.1==0))&&Y (nodeAt q a).2.2.2.1 f.2.2.2.1)=true;rw[auO];exact⟨hv.1,hp _ hm _ hv.2⟩
   .rw[ht]at hm;show(!((f.2.2.2.1==0))&&X (nodeAt q a).2.2.2.1 f.2.2.2.1)=(!((f.2.2.2.1==0))&&Y (nodeAt q a).2.2.2.1 f.2.2.2.1);rw[hn _ hm]
  .have:ER (nodeAt q a) f X=ER (nodeAt q a) f Y:=by unfold ER;rw[auP.2 h8,auP.2 h9];rfl
   rw[this];exact⟨λ_=>id,λ_=>rfl⟩
theorem aiz{q:List ak}{f:aS}{X Y:BX}(hp:∀s∈dU q false,∀x,X s x=true->Y s x=true)(hn:∀s∈dU q true,∀x,X s x=Y s x)(hm:Nk q f X=true):Nk q f Y=true:=by unfold Nk at hm ⊢;rw[auO]at hm ⊢;have hl:=gy hm.1;exact⟨hm.1,(aoj hm.1 hp hn _ (by omega)).1 (adg hm.1) hm.2⟩
theorem akg{fs:List aS}{q:List ak}{X:BX}{x:Int}:(x,())∈sel fs q X↔∃f∈fs,f.1=x/\Nk q f X=true:=by
 unfold sel;rw[av1];constructor
 .rintro⟨f,hf,e⟩;rw[awG]at hf;exact⟨f,hf.1,congrArg Prod.fst e,hf.2⟩
 .rintro⟨f,hf,rfl,hm⟩;exact⟨f,awG.2 ⟨hf,hm⟩,rfl⟩
def alB(fs:List aS)(d:List bD):Sys Bytes Int where
 T:=λs X x=>∃i,i<d.length/\(dm d i).1=s/\(x,())∈sel fs (dm d i).2.1 X
 pos:=λs t=>∃i,i<d.length/\(dm d i).1=s/\t∈dU (dm d i).2.1 false
 neg:=λs t=>∃i,i<d.length/\(dm d i).1=s/\t∈dU (dm d i).2.1 true
 mono:=λs X Y hp hn x⟨i,hi,e,hx⟩=>⟨i,hi,e,by obtain⟨f,hf,e2,hm⟩:=akg.1 hx;exact akg.2 ⟨f,hf,e2,aiz (λt ht=>hp t ⟨i,hi,e,ht⟩) (λt ht=>hn t ⟨i,hi,e,ht⟩) hm⟩⟩
end Sp
namespace Go.Fw
open Go
end Go.Fw
namespace Go.Fw
open Go
theorem fP{p:Prop}[Decidable p]{A B:Prop}(h:p)(a:A):cond (decide p) A B:=by rw[au2 h];exact a
theorem fQ{p:Prop}[Decidable p]{A B:Prop}(h:¬p)(b:B):cond (decide p) A B:=by rw[au6 h];exact b
theorem kS{B:((Int×Unit)×Unit->Prop)->((Int×Unit)×Unit->Nat)->(Int×Unit)×Unit->Prop}(len:Nat)(hlen:len<=9223372036854775807)(J:Nat->Prop)(h0:J 0)
 (hstep:∀I μ(n:Nat),n<len->J n->(J (n+1)->I ((IntKind.i64.wrap ((n:Int)+1),()),())/\μ ((IntKind.i64.wrap ((n:Int)+1),()),())<μ (((n:Int),()),()))->B I μ (((n:Int),()),()))
 (hend:∀I μ,J len->B I μ (((len:Int),()),())):∃I,∃μ,I (((0:Int),()),())/\∀y,I y->B I μ y:=by
 refine⟨λy=>∃n:Nat,y.1.1=n/\n<=len/\J n,λy=>((len:Int)-y.1.1).toNat,⟨0,rfl,avc _,h0⟩,?_⟩;rintro⟨⟨_,⟨⟩⟩,⟨⟩⟩ ⟨n,rfl,hn,hJ⟩;rcases avb n len with h|h
 .refine hstep _ _ n h hJ λhJ'=>?_;have e:IntKind.i64.wrap ((n:Int)+1)=((n+1:Nat):Int):=fE _ (by omega);rw[e];exact⟨⟨n+1,rfl,h,hJ'⟩,by show((len:Int)-(n+1:Nat)).toNat<((len:Int)-n).toNat;omega⟩
 .have:n=len:=by omega
  subst this;exact hend _ _ hJ
theorem iy{Y S:Type}(mk:Int->S->Y)(idx:Y->Int)(hidx:∀i s,idx (mk i s)=i){B:(Y->Prop)->(Y->Nat)->Y->Prop}(len:Nat)(hlen:len<=9223372036854775807)(J:Nat->S->Prop){s0:S}(h0:J 0 s0)
 (hstep:∀I μ(n:Nat)(s:S),n<len->J n s->(∀s',J (n+1) s'->I (mk (IntKind.i64.wrap ((n:Int)+1)) s')/\μ (mk (IntKind.i64.wrap ((n:Int)+1)) s')<μ (mk n s))->B I μ (mk n s))
 (hend:∀I μ s,J len s->B I μ (mk len s)):∃I,∃μ,I (mk 0 s0)/\∀y,I y->B I μ y:=by
 refine⟨λy=>∃(n:Nat)(s:S),y=mk n s/\n<=len/\J n s,λy=>((len:Int)-idx y).toNat,⟨0,s0,rfl,avc _,h0⟩,?_⟩;rintro _ ⟨n,s,rfl,hn,hJ⟩;rcases avb n len with h|h
 .refine hstep _ _ n s h hJ λs' hJ'=>?_;have e:IntKind.i64.wrap ((n:Int)+1)=((n+1:Nat):Int):=fE _ (by omega);rw[e];refine⟨⟨n+1,s',rfl,h,hJ'⟩,?_⟩;show((len:Int)-idx (mk (n+1:Nat) s')).toNat<((len:Int)-idx (mk n s)).toNat;rw[hidx,hidx];omega
 .have:n=len:=by omega
  subst this;exact hend _ _ s hJ
theorem Ba{len:Nat}{f:Nat->Bool}{n:Nat}(hn:n<len)(h:f n=false):Sp.jd len f=false:=by unfold Sp.jd;rw[List.all_eq_false];exact⟨n,avD.2 hn,by rw[h];simp⟩
theorem nD{len:Nat}{f:Nat->Bool}(h:∀i,i<len->f i=true):Sp.jd len f=true:=by unfold Sp.jd;rw[au9];exactλi hi=>h i (avD.1 hi)
theorem Pv{len:Nat}{f:Nat->Bool}:Sp.jd len f=true↔∀i,i<len->f i=true:=by unfold Sp.jd;rw[au9];exact⟨λh i hi=>h i (avD.2 hi),λh i hi=>h i (avD.1 hi)⟩
theorem dW{n:Nat}{f:Nat->Bool}(h:∀i,i<n->f i=true)(hn:f n=true):∀i,i<n+1->f i=true:=λi hi=>by
 rcases avb i n with h'|h'
 .exact h i h'
 .have:i=n:=by omega
  rw[this];exact hn
theorem jP{b:Bool}(h:(!b)=true):b=false:=by cases b<;>first|rfl|cases h
theorem gI{b:Bool}(h:(!b)=false):b=true:=by cases b<;>first|rfl|cases h
theorem fH{p:Prop}[Decidable p](h:decide p=true):p:=av2 h
theorem fV{p:Prop}[Decidable p](h:decide p=false):¬p:=of_decide_eq_false h
theorem zG{n:Nat}(h:0<n)(hn:n<=9223372036854775807):IntKind.i64.wrap ((n:Int)-1)=((n-1:Nat):Int):=by rw[fE _ (by omega)];omega
theorem XM{α:Type}{d:α}{a b:List α}(hl:a.length=b.length)(h:∀i,i<a.length->a.getD i d=b.getD i d):a=b:=by refine axe hl λi h1 h2=>?_;have:=h i h1;rw[auS,auS,auX h1,auX h2]at this;simpa using this
theorem Fj{α β:Type}(e:α->α->Bool)(he:∀x y,e x y=false↔x=y)(d:α)(a b:List α)(t:β)(hlen:a.length<=9223372036854775807)(hl:a.length=b.length){K:Bool×Unit->Prop}(hF:a≠b->K (false,()))(hT:a=b->K (true,())):
 ∃(I:(Int×Unit)×Unit->Prop),∃(μ:(Int×Unit)×Unit->Nat),I (((0:Int),()),())/\∀(y:(Int×Unit)×Unit),I y->
  bif decide (y.fst.fst<(a.length:Int))then
   ((0:Int)<=y.fst.fst/\y.fst.fst<(a.length:Int))/\((0:Int)<=y.fst.fst/\y.fst.fst<(b.length:Int))/\
     (bif e (a.getD (Int.toNat y.fst.fst) d) (b.getD (Int.toNat y.fst.fst) d)then K (false,())
     else t=t/\I ((IntKind.i64.wrap (y.fst.fst+(1:Int)),()),())/\μ ((IntKind.i64.wrap (y.fst.fst+(1:Int)),()),())<μ y)
  else K (true,()):=by
 refine kS a.length hlen (λn=>∀i,i<n->a.getD i d=b.getD i d) (λi hi=>by omega) (λI μ n hn hJ next=>?_) λI μ hJ=>(by dsimp only;exact fQ (by omega) (hT (XM hl hJ)));dsimp only;refine fP (by omega) ⟨⟨by omega,by omega⟩,⟨by omega,by omega⟩,af (λh=>hF λh'=>?_) λh=>⟨rfl,next λi hi=>?_⟩⟩
 .subst h';have:=(he (a.getD n d) (a.getD n d)).2 rfl;have h:e (a.getD n d) (a.getD n d)=true:=h;rw[this]at h;cases h
 .rcases avb i n with h'|h'
  .exact hJ i h'
  .have:i=n:=by omega
   rw[this];exact(he _ _).1 h
theorem aaz{α β:Type}(e:α->α->Bool)(he:∀x y,e x y=false↔x=y)(d:α)(a b:List α)(t:β)(hlen:a.length<=9223372036854775807)(hl:a.length=b.length){K:Bool×Unit->Prop}(hF:a≠b->K (false,()))(hT:a=b->K (true,())):
 ∃(I:(Int×Unit)×Unit->Prop),∃(μ:(Int×Unit)×Unit->Nat),I (((0:Int),()),())/\∀(y:(Int×Unit)×Unit),I y->
  bif decide (y.fst.fst<(a.length:Int))then
   ((0:Int)<=y.fst.fst/\y.fst.fst<(a.length:Int))/\((0:Int)<=y.fst.fst/\y.fst.fst<(b.length:Int))/\True/\
     (bif e (a.getD (Int.toNat y.fst.fst) d) (b.getD (Int.toNat y.fst.fst) d)then K (false,())
     else t=t/\I ((IntKind.i64.wrap (y.fst.fst+(1:Int)),()),())/\μ ((IntKind.i64.wrap (y.fst.fst+(1:Int)),()),())<μ y)
  else K (true,()):=by
 refine kS a.length hlen (λn=>∀i,i<n->a.getD i d=b.getD i d) (λi hi=>by omega) (λI μ n hn hJ next=>?_) λI μ hJ=>(by dsimp only;exact fQ (by omega) (hT (XM hl hJ)));dsimp only;refine fP (by omega) ⟨⟨by omega,by omega⟩,⟨by omega,by omega⟩,trivial,af (λh=>hF λh'=>?_) λh=>⟨rfl,next λi hi=>?_⟩⟩
 .subst h';have:=(he (a.getD n d) (a.getD n d)).2 rfl;have h:e (a.getD n d) (a.getD n d)=true:=h;rw[this]at h;cases h
 .rcases avb i n with h'|h'
  .exact hJ i h'
  .have:i=n:=by omega
   rw[this];exact(he _ _).1 h
end Go.Fw
namespace Sp
open Go Go.Fw
theorem WR{name:Bytes}:∀(s:List dR)(n:Nat),n<s.length->(∀i,i<n->(s.getD i ([],0,())).1≠name)->(s.getD n ([],0,())).1=name->kindOf s name=(s.getD n ([],0,())).2.1
 |[],n,h,_,_=>by simp at h
 |f::r,0,_,_,he=>by
  have he:f.1=name:=he;show(bif decide (f.1=name)then f.2.1 else kindOf r name)=f.2.1;rw[au2 he];rfl
 |f::r,n+1,h,hne,he=>by have h0:f.1≠name:=hne 0 (by omega);show(bif decide (f.1=name)then f.2.1 else kindOf r name)=_;rw[au6 h0];exact WR r n (by simpa using h) (λi hi=>hne (i+1) (by omega)) he
theorem O8{name:Bytes}:∀(s:List dR),(∀i,i<s.length->(s.getD i ([],0,())).1≠name)->kindOf s name=0
 |[],_=>rfl
 |f::r,hne=>by have h0:f.1≠name:=hne 0 (by simp);show(bif decide (f.1=name)then f.2.1 else kindOf r name)=_;rw[au6 h0];exact O8 r λi hi=>hne (i+1) (by simp;omega)
theorem XO{id:Int}:∀(s:List aS)(k:Int)(n:Nat),n<s.length->(∀i,i<n->(fileAt s i).1≠id)->(fileAt s n).1=id->zU k s id=k+n
 |[],_,n,h,_,_=>by simp at h
 |f::r,k,0,_,_,he=>by
  have he:f.1=id:=he;show(bif decide (f.1=id)then k else zU (k+1) r id)=_;rw[au2 he];simp
 |f::r,k,n+1,h,hne,he=>by have h0:f.1≠id:=hne 0 (by omega);show(bif decide (f.1=id)then k else zU (k+1) r id)=_;rw[au6 h0];show zU (k+1) r id=_;rw[XO r (k+1) n (by simpa using h) (λi hi=>hne (i+1) (by omega)) he];omega
theorem Rf{id:Int}:∀(s:List aS)(k:Int),(∀i,i<s.length->(fileAt s i).1≠id)->zU k s id=-1
 |[],_,_=>rfl
 |f::r,k,hne=>by have h0:f.1≠id:=hne 0 (by simp);show(bif decide (f.1=id)then k else zU (k+1) r id)=_;rw[au6 h0];exact Rf r (k+1) λi hi=>hne (i+1) (by simp;omega)
theorem ML{id:Int}{s:List aS}{n:Nat}(h:n<s.length)(hne:∀i,i<n->(fileAt s i).1≠id)(he:(fileAt s n).1=id):place s id=n:=by unfold place;rw[XO s 0 n h hne he];omega
theorem acd{id:Int}{s:List aS}(hne:∀i,i<s.length->(fileAt s i).1≠id):place s id=-1:=Rf s 0 hne
theorem aju(s:List aS)(id:Int):(place s id=-1/\∀i,i<s.length->(fileAt s i).1≠id)\/∃n,n<s.length/\place s id=n/\(fileAt s n).1=id/\∀i,i<n->(fileAt s i).1≠id:=by
 by_cases h:∃n,n<s.length/\(fileAt s n).1=id
 .obtain⟨n,h1,h2,h3⟩:=(least s.length (p:=λn=>(fileAt s n).1=id) h);exact .inr ⟨n,h1,ML h1 (λi hi=>h3 i hi) h2,h2,λi hi=>h3 i hi⟩
 .have hne:∀i,i<s.length->(fileAt s i).1≠id:=λi hi e=>h ⟨i,hi,e⟩;exact .inl ⟨acd hne,hne⟩
theorem Zr{s:List dR}{n:Nat}(h:n<s.length)(hn:jC s n=false):eF s=false:=by unfold eF;rw[Ba h hn];rfl
theorem alC{fs:List dR}{s:List aW}{n:Nat}(h:n<s.length)(hn:jJ fs s n=false):ji fs s=false:=Ba h hn
theorem afr{fs:List dR}{f:aS}{n:Nat}(h:n<f.2.2.2.2.1.length)(hn:jJ fs f.2.2.2.2.1 n=false):dG fs f=false:=by unfold dG;rw[alC h hn];rfl
theorem ab7{s:dZ}{n:Nat}(h:n<s.2.1.length)(hn:lg s n=false):bM s=false:=by unfold bM;rw[Ba h hn];rfl
theorem nI{s:dZ}{i:Nat}:lg s i=true↔dG s.1 (fileAt s.2.1 i)=true/\(fileAt s.2.1 i).1<s.2.2.1/\(0<i->(fileAt s.2.1 (i-1)).1<(fileAt s.2.1 i).1):=by
 unfold lg;rw[auO,auO,au1,and_assoc];refine awu λ_=>awu λ_=>?_;by_cases h:0<i
 .simp[h]
 .simp[h]
theorem oU{s:dZ}:bM s=true↔(∀i,i<s.2.1.length->lg s i=true)/\eF s.1=true/\s.2.1.length<=12/\1<=s.2.2.1/\s.2.2.1<=61:=by
 unfold bM;rw[auO,auO,auO,auO,au1,au1,au1,Pv];constructor
 .rintro⟨⟨⟨h1,h2⟩,h3⟩,h4,h5⟩;exact⟨h1,h2,by omega,h4,h5⟩
 .rintro⟨h1,h2,h3,h4,h5⟩;exact⟨⟨⟨h1,h2⟩,by omega⟩,h4,h5⟩
theorem am7{fs:List dR}{f:aS}(h:dG fs f=true):1<=f.1/\f.1<=60:=by unfold dG at h;simp only[auO,au1]at h;exact h.1.1.2
theorem PK{fs:List aS}{g:aS}{i:Nat}(h:i<fs.length):fileAt (fs++[g]) i=fileAt fs i:=by unfold fileAt;rw[auS,avA h,← auS]
theorem ajv{fs:List aS}{g:aS}:fileAt (fs++[g]) fs.length=g:=by unfold fileAt;rw[auS,avq (auT _)];simp
theorem aiA{s:dZ}{g:aS}(h:bM s=true)(hl:s.2.1.length<12)(hg:dG s.1 g=true)(hid:g.1=s.2.2.1):bM (s.1,s.2.1++[g],s.2.2.1+1,())=true:=by
 obtain⟨h1,h2,h3,h4,h5⟩:=oU.1 h;have hg1:=am7 hg;refine oU.2 ⟨λi hi=>?_,h2,by show(s.2.1++[g]).length<=12;simp;omega,by show 1<=s.2.2.1+1;omega,by show s.2.2.1+1<=61;omega⟩;have hi:i<(s.2.1++[g]).length:=hi;rw[auN,auQ,auW]at hi;refine nI.2 ?_;show dG s.1 (fileAt (s.2.1++[g]) i)=true/\(fileAt (s.2.1++[g]) i).1<s.2.2.1+1/\(0<i->(fileAt (s.2.1++[g]) (i-1)).1<(fileAt (s.2.1++[g]) i).1);rcases avb i s.2.1.length with hlt|hge
 .obtain⟨k1,k2,k3⟩:=nI.1 (h1 i hlt);rw[PK hlt];refine⟨k1,by omega,λh0=>?_⟩;rw[PK (by omega)];exact k3 h0
 .have e:i=s.2.1.length:=by omega
  subst e;rw[ajv];refine⟨hg,by omega,λh0=>?_⟩;rw[PK (by omega)];have:=(nI.1 (h1 (s.2.1.length-1) (by omega))).2.1;omega
theorem nV(s:dZ)(f:aS):(bY s f=(s,0,false)/\¬(bM s=true/\s.2.1.length<12/\dG s.1 (s.2.2.1,f.2)=true))\/
 (bM s=true/\s.2.1.length<12/\dG s.1 (s.2.2.1,f.2)=true/\bY s f=((s.1,s.2.1++[(s.2.2.1,f.2)],s.2.2.1+1,()),s.2.2.1,true)):=by
 by_cases h:bM s=true/\s.2.1.length<12/\dG s.1 (s.2.2.1,f.2)=true
 .right;refine⟨h.1,h.2.1,h.2.2,?_⟩;unfold bY;dsimp only;rw[h.1,h.2.2,au2 (by omega)];rfl
 .left;refine⟨?_,h⟩;have:(bM s&&decide ((s.2.1.length:Int)<12)&&dG s.1 (s.2.2.1,f.2))=false:=by
   cases hb:(bM s&&decide ((s.2.1.length:Int)<12)&&dG s.1 (s.2.2.1,f.2))with
   |false=>rfl
   |true=>simp only[auO,au1]at hb;exact(h ⟨hb.1.1,by omega,hb.2⟩).elim
  unfold bY;dsimp only;rw[this];rfl
theorem aef{s:dZ}(f:aS)(h:bM s=true):bM (bY s f).1=true:=by
 rcases nV s f with⟨e,_⟩|⟨h1,h2,h3,e⟩
 .rw[e];exact h
 .rw[e];exact aiA h1 h2 h3 rfl
theorem agf{s:dZ}{f:aS}(h:lZ s)(hf:wV f):lZ (bY s f).1:=by
 rcases nV s f with⟨e,_⟩|⟨h1,h2,h3,e⟩
 .rw[e];exact h
 .rw[e];refine⟨h.1,by show(s.2.1++[(s.2.2.1,f.2)]).length<=1000;simp;omega,λg hg=>?_⟩;have hg:g∈s.2.1++[(s.2.2.1,f.2)]:=hg;rcases avf.1 hg with hg|hg
  .exact h.2.2 g hg
  .have:g=(s.2.2.1,f.2):=by simpa using hg
   subst this;exact hf
theorem vF(s:dZ)(id:Int):(fA s id=(s,false)/\¬(bM s=true/\0<=place s.2.1 id))\/
 ∃n,n<s.2.1.length/\place s.2.1 id=n/\bM s=true/\fA s id=((s.1,s.2.1.eraseIdx n,s.2.2.1,()),true):=by
 rcases aju s.2.1 id with⟨h,_⟩|⟨n,hn,h,_,_⟩
 .left;refine⟨?_,λh'=>by omega⟩;unfold fA;rw[h];simp
 .cases ho:bM s with
  |false=>
   left;refine⟨?_,λh'=>by cases h'.1⟩;unfold fA;rw[ho];rfl
  |true=>right;refine⟨n,hn,h,rfl,?_⟩;unfold fA;rw[ho,h,au6 (by omega),ava];rfl
theorem XP{fs:List aS}{n i:Nat}:fileAt (fs.eraseIdx n) i=if i<n then fileAt fs i else fileAt fs (i+1):=by unfold fileAt;rw[auS,List.getElem?_eraseIdx];split<;>rw[auS]
theorem agw{s:dZ}{n:Nat}(h:bM s=true)(hn:n<s.2.1.length):bM (s.1,s.2.1.eraseIdx n,s.2.2.1,())=true:=by
 obtain⟨h1,h2,h3,h4,h5⟩:=oU.1 h;have hlen:(s.2.1.eraseIdx n).length=s.2.1.length-1:=axh hn;refine oU.2 ⟨λi hi=>?_,h2,by show(s.2.1.eraseIdx n).length<=12;omega,h4,h5⟩;have hi:i<(s.2.1.eraseIdx n).length:=hi;refine nI.2 ?_;show dG s.1 (fileAt (s.2.1.eraseIdx n) i)=true/\(fileAt (s.2.1.eraseIdx n) i).1<s.2.2.1/\(0<i->(fileAt (s.2.1.eraseIdx n) (i-1)).1<(fileAt (s.2.1.eraseIdx n) i).1);rw[XP,XP];rcases avb i n with hlt|hge
 .rw[if_pos hlt];obtain⟨k1,k2,k3⟩:=nI.1 (h1 i (by omega));refine⟨k1,k2,λh0=>?_⟩;rw[if_pos (by omega)];exact k3 h0
 .rw[if_neg (by omega)];obtain⟨k1,k2,k3⟩:=nI.1 (h1 (i+1) (by omega));refine⟨k1,k2,λh0=>?_⟩;have k3:=k3 (by omega);rw[axR]at k3;split
  .have:=(nI.1 (h1 i (by omega))).2.2 h0;omega
  .rw[show i-1+1=i by omega];exact k3
theorem aeg{s:dZ}(id:Int)(h:bM s=true):bM (fA s id).1=true:=by
 rcases vF s id with⟨e,_⟩|⟨n,hn,_,ho,e⟩
 .rw[e];exact h
 .rw[e];exact agw ho hn
theorem agh{s:dZ}(id:Int)(h:lZ s):lZ (fA s id).1:=by
 rcases vF s id with⟨e,_⟩|⟨n,hn,_,ho,e⟩
 .rw[e];exact h
 .rw[e];refine⟨h.1,?_,λg hg=>h.2.2 g (List.mem_of_mem_eraseIdx hg)⟩;show(s.2.1.eraseIdx n).length<=1000;have:=h.2.1;rw[axh hn];omega
theorem alD{s:List aS}{f:aS}(h:f∈s):∃i,i<s.length/\fileAt s i=f:=by obtain⟨i,hi,rfl⟩:=av9 h;refine⟨i,hi,?_⟩;unfold fileAt;rw[auS,auX hi];rfl
theorem adh{s:List aS}{i:Nat}(h:i<s.length):fileAt s i∈s:=getD_mem h
theorem am8{s:dZ}(h:bM s=true):∀(j i:Nat),i<j->j<s.2.1.length->(fileAt s.2.1 i).1<(fileAt s.2.1 j).1
 |0,i,hi,_=>by omega
 |j+1,i,hi,hj=>by
  have h1:=(nI.1 ((oU.1 h).1 (j+1) hj)).2.2 (by omega);rw[axR]at h1;rcases avb i j with h2|h2
  .have:=am8 h j i h2 (by omega);omega
  .have:i=j:=by omega
   rw[this];exact h1
theorem MO{α:Type}{p:α->Bool}{d:α}:∀(l:List α)(n:Nat),n<=l.length->(∀i,i<n->p (l.getD i d)=true)->(n<l.length->p (l.getD n d)=false)->l.takeWhile p=l.take n/\l.dropWhile p=l.drop n
 |[],n,h,_,_=>by simp
 |x::r,0,_,_,h=>by
  have h:p x=false:=h (by simp);constructor<;>simp[h]
 |x::r,n+1,hn,h1,h2=>by have h0:p x=true:=h1 0 (by omega);have:=MO r n (by simpa using hn) (λi hi=>h1 (i+1) (by omega)) λhlt=>h2 (by simpa using hlt);constructor<;>simp[h0,this.1,this.2]
end Sp
namespace Sp
open Go Go.Fw
theorem ZC:∀a:Bytes,Op.bytesLess a a=false
 |[]=>rfl
 |x::a=>by show(decide (x<x)||(x==x&&Op.bytesLess a a))=false;rw[ZC a,au6 (UInt8.lt_irrefl x),awN];rfl
theorem am9{x y:UInt8}{a b:Bytes}:Op.bytesLess (x::a) (y::b)=true↔x.toNat<y.toNat\/(x=y/\Op.bytesLess a b=true):=by show(decide (x<y)||(x==y&&Op.bytesLess a b))=true↔_;rw[avW,au1,auO,avj,UInt8.lt_iff_toNat_lt]
theorem Us:∀a b c:Bytes,Op.bytesLess a b=true->Op.bytesLess b c=true->Op.bytesLess a c=true
 |_,[],_,h,_=>by cases h':(‹Bytes›:Bytes)<;>simp_all [Op.bytesLess]
 |_,_::_,[],_,h=>by cases h
 |[],_::_,_::_,_,_=>rfl
 |x::a,y::b,z::c,h1,h2=>by
  rw[am9]at h1 h2 ⊢;rcases h1 with h1|⟨rfl,h1⟩
  .rcases h2 with h2|⟨rfl,h2⟩
   .exact .inl (by omega)
   .exact .inl h1
  .rcases h2 with h2|⟨rfl,h2⟩
   .exact .inl h2
   .exact .inr ⟨rfl,Us a b c h1 h2⟩
theorem apL{a b:Bytes}(h:Op.bytesLess a b=true):a≠b:=λe=>by rw[e,ZC]at h;cases h
theorem Xg{s:List dR}:eF s=true↔(∀i,i<s.length->jC s i=true)/\s.length<=5:=by unfold eF;rw[auO,Pv,au1];exact awu λ_=>by omega
end Sp
namespace Sp
open Go
def nameOf(d:List bD)(i:Nat):Bytes:=(dm d i).1
def Ll(d:List bD)(i:Nat):List ak:=(dm d i).2.1
def aoZ(r:List yE)(i:Nat):yE:=r.getD i ([],[],())
def Ut(r:List yE)(i:Nat):List (Int×Unit):=(aoZ r i).2.1
def NT(d:List bD)(aJ:List (Int×Unit)):Prop:=
 aJ.length=d.length/\(∀i,i<d.length->0<=lv aJ i/\lv aJ i<=d.length)/\(iT (dn d) λi=>(lv aJ i).toNat)/\∀M,iT (dn d) M->∀i,i<d.length->lv aJ i<=M i
theorem alg{d:List bD}(h:∃M,iT (dn d) M/\∀i,i<d.length->M i<d.length):∃s,NT d s:=by
 have hE:=kM d;have hmin:∀i,∃m,(∃M,iT (dn d) M/\M i=m)/\∀M,iT (dn d) M->m<=M i:=λi=>by
  obtain⟨M0,h0,_⟩:=h;have:∀n,(∃M,iT (dn d) M/\M i=n)->∃m,(∃M,iT (dn d) M/\M i=m)/\∀M,iT (dn d) M->m<=M i:=by
   intro n
   induction n using Nat.strongRecOn with
   |_ n ih=>
    intro hn;by_cases hl:∃M,iT (dn d) M/\M i<n
    .obtain⟨M,h1,h2⟩:=hl;exact ih _ h2 ⟨M,h1,rfl⟩
    .exact⟨n,hn,λM hM=>ax3 λhlt=>hl ⟨M,hM,hlt⟩⟩
  exact this (M0 i) ⟨M0,h0,rfl⟩
 obtain⟨L,hL⟩:=Classical.axiomOfChoice hmin;have hfix:iT (dn d) L:=λe he=>by obtain⟨⟨M,h1,h2⟩,_⟩:=hL e.1;have a:=(hL e.2.1).2 M h1;have b:=h1 e he;rw[← h2];omega
 have hlv:∀i,i<d.length->lv ((List.range d.length).map λi=>((L i:Int),())) i=L i:=λi hi=>by unfold lv;rw[auS,avK,List.getElem?_range hi];rfl
 refine⟨(List.range d.length).map λi=>((L i:Int),()),by simp,λi hi=>?_,λe he=>?_,λM hM i hi=>?_⟩
 .rw[hlv i hi];obtain⟨M,h1,h2⟩:=h;have:=(hL i).2 M h1;have:=h2 i hi;omega
 .obtain⟨h1,h2,_⟩:=hE e he;have:=hfix e he;dsimp only;rw[hlv _ h1,hlv _ h2];omega
 .rw[hlv i hi];have:=(hL i).2 M hM;omega
def aok(d:List bD)(aJ:List (Int×Unit))(s:Bytes):Nat:=(lv aJ (aC d s).toNat).toNat
def due(d:List bD)(nm:Bytes->Bool)(s:Bytes):Prop:=nm s=true/\∃i,i<d.length/\nameOf d i=s
def afG(d:List bD)(out:List yE):Prop:=out.length=d.length/\∀i,i<d.length->(aoZ out i).1=nameOf d i
structure ao0(fs:List aS)(d:List bD)(r:List yE)(nm:Bytes->Bool)(out:List yE):Prop where
 order:afG d out
 kept:∀i,i<d.length->nm (nameOf d i)=false->Ut out i=XL r (nameOf d i)
 fix:∀i,i<d.length->nm (nameOf d i)=true->Ut out i=sel fs (Ll d i) (Un out)
 aJ:∃aJ,NT d aJ/\Eval (alB fs d) (due d nm) (aok d aJ) (Un out)
def Yj{ι α:Type}(S:Sys ι α)(N:ι->Prop)(aJ:ι->Nat)(k:Nat)(X:Ext ι α):Prop:=
 ∀Y:Ext ι α,(∀i,¬(N i/\aJ i=k)->∀x,Y i x=X i x)->(∀i,N i->aJ i=k->∀x,S.T i Y x->Y i x=true)->∀i,N i->aJ i=k->∀x,X i x=true->Y i x=true
open Classical in
theorem apM{ι α:Type}{S:Sys ι α}{N:ι->Prop}{aJ:ι->Nat}(hs:arN S N aJ){m:Nat}{X X':Ext ι α}(h:∀i,¬(N i/\m<aJ i)->∀x,X i x=X' i x)(hX:Yj S N aJ m X):Yj S N aJ m X':=by
 intro Y hY hp i hi hl x hx;have key:=hX (λi x=>if N i/\m<aJ i then X i x else Y i x) (λj hj y=>?_) (λj hj hlj y hy=>?_) i hi hl x (by rw[h i (by omega)];exact hx)
 .rw[if_neg (by omega)]at key;exact key
 .by_cases hc:N j/\m<aJ j
  .rw[if_pos hc]
  .rw[if_neg hc,hY j hj,h j hc]
 .rw[if_neg (by omega)];have same:∀t,(S.pos j t\/S.neg j t)->¬(N t/\m<aJ t):=λt ht hc=>by
   rcases ht with ht|ht
   .have:=(hs j t hj hc.1).1 ht;omega
   .have:=(hs j t hj hc.1).2 ht;omega
  refine hp j hj hlj y (S.mono j _ Y (λt ht z hz=>?_) (λt ht z=>?_) y hy)
  .rw[if_neg (same t (.inl ht))]at hz;exact hz
  .rw[if_neg (same t (.inr ht))]
def canon(fs:List aS)(l:List (Int×Unit)):Prop:=l=(fs.filter λf=>agP l f.1).map λf=>(f.1,())
structure atm(fs:List aS)(d:List bD)(r:List yE)(nm:Bytes->Bool)(aJ:List (Int×Unit))(k:Nat)(out:List yE):Prop where
 order:afG d out
 kept:∀i,i<d.length->nm (nameOf d i)=false->Ut out i=XL r (nameOf d i)
 later:∀i,i<d.length->nm (nameOf d i)=true->(k:Int)<lv aJ i->Ut out i=[]
 done:∀i,i<d.length->nm (nameOf d i)=true->lv aJ i<k->Ut out i=sel fs (Ll d i) (Un out)
 atS:∀m,m<k->Yj (alB fs d) (due d nm) (aok d aJ) m (Un out)
 auv:∀i,i<d.length->nm (nameOf d i)=true->lv aJ i=k->∀x,agP (Ut out i) x=true->(x,())∈sel fs (Ll d i) (Un out)
 least:Yj (alB fs d) (due d nm) (aok d aJ) k (Un out)
 canon:∀i,i<d.length->nm (nameOf d i)=true->canon fs (Ut out i)
def room(n:Nat)(out:List yE):Nat:=(out.map λx=>n-x.2.1.length).sum
end Sp
namespace Sp
open Go
abbrev Ik:=List dR×List aS×Int×List bD×List yE×Unit
instance:DecidableEq (List (Int×Unit)):=inferInstance
instance:DecidableEq yE:=inferInstance
instance:DecidableEq (List yE):=inferInstance
instance:DecidableEq (List yE×Unit):=inferInstance
instance:DecidableEq (List bD×List yE×Unit):=inferInstance
instance:DecidableEq (Int×List bD×List yE×Unit):=inferInstance
instance:DecidableEq (List aS×Int×List bD×List yE×Unit):=inferInstance
instance auw:DecidableEq Ik:=(inferInstance:DecidableEq (List dR×List aS×Int×List bD×List yE×Unit))
def Jj(c:Ik):dZ:=(c.1,c.2.1,c.2.2.1,())
def KW(c:Ik):List bD:=c.2.2.2.1
def atc(c:Ik):List yE:=c.2.2.2.2.1
open Classical in
noncomputable def ao1 (c:Ik):Bool:=dH (KW c)&&bM (Jj c)&&decide (ao0 c.2.1 (KW c) [] (λ_=>true) (atc c))
def aol(f g:aS):List Bytes:=((f.2.2.2.2.1++g.2.2.2.2.1).map λa=>a.1).filter λs=>!decide (Ij f.2.2.2.2.1 s=Ij g.2.2.2.2.1 s)
def apN(q:List ak):List Bytes:=(q.filter λn=>n.1==2||(n.1==3||n.1==4)).map λn=>n.2.2.2.1
def aqJ(q:List ak):List Bytes:=(q.filter pR).map λn=>n.2.2.2.1
def linked(q:List ak):Bool:=q.any λn=>n.1==9
inductive Reach(d:List bD)(P:Bytes->Prop):Bytes->Prop where
 |base {s}:P s->Reach d P s
 |step {s i}:Reach d P s->i<d.length->s∈aqJ (Ll d i)->Reach d P (nameOf d i)
def aom(d:List bD)(f g:aS)(s:Bytes):Prop:=
 ∃i,i<d.length/\nameOf d i=s/\(f.1≠g.1\/(∃t,t∈apN (Ll d i)/\t∈aol f g)\/(linked (Ll d i)=true/\f.2.2.2.1≠g.2.2.2.1))
def Aff(d:List bD)(f g:aS):Bytes->Prop:=Reach d (aom d f g)
open Classical in
noncomputable def auy (d:List bD) (f g:aS) (s:Bytes):Bool:=decide (Aff d f g s)
end Sp
namespace Sp
open Go
end Sp
namespace Sp
open Go
def atd(as:List aW):Prop:=as.Pairwise λx y=>Op.bytesLess x.1 y.1=true
theorem abe{α:Type}{R:α->α->Prop}(ht:∀a b c,R a b->R b c->R a c)(d:α):∀(l:List α),(∀i,i+1<l.length->R (l.getD i d) (l.getD (i+1) d))->l.Pairwise R
 |[],_=>List.Pairwise.nil
 |[x],_=>List.pairwise_singleton _ _
 |x::y::r,h=>by
  have ih:=abe ht d (y::r) λi hi=>h (i+1) (by simpa using hi);have h0:R x y:=h 0 (by simp);refine awz.2 ⟨λz hz=>?_,ih⟩;rcases au3.1 hz with rfl|hz
  .exact h0
  .exact ht _ _ _ h0 ((awz.1 ih).1 z hz)
theorem PD{fs:List dR}{as:List aW}:ji fs as=true↔(∀a∈as,iK fs a.1 a.2.1 a.2.2.1 a.2.2.2.1=true)/\atd as:=by
 have at_:∀i(hi:i<as.length),bW as i=as[i]:=λi hi=>by unfold bW;rw[auS,auX hi];rfl
 unfold ji;rw[show(jd as.length (jJ fs as)=true)↔∀i,i<as.length->jJ fs as i=true from by unfold jd;rw[au9];exact⟨λh i hi=>h i (avD.2 hi),λh i hi=>h i (avD.1 hi)⟩];have one:∀i,jJ fs as i=true↔iK fs (bW as i).1 (bW as i).2.1 (bW as i).2.2.1 (bW as i).2.2.2.1=true/\(0<i->Op.bytesLess (bW as (i-1)).1 (bW as i).1=true):=λi=>by
  unfold jJ;rw[auO];refine awu λ_=>?_;by_cases h0:0<i
  .rw[au2 h0];simp[h0]
  .rw[au6 h0];simp[h0]
 constructor
 .intro h;refine⟨λa ha=>?_,?_⟩
  .obtain⟨i,hi,rfl⟩:=av9 ha;have:=((one i).1 (h i hi)).1;rw[at_ i hi]at this;exact this
  .refine abe (R:=λx y:aW=>Op.bytesLess x.1 y.1=true) (λa b c h1 h2=>Us _ _ _ h1 h2) ([],0,0,[],()) as λi hi=>?_;exact((one (i+1)).1 (h (i+1) hi)).2 (by omega)
 .rintro⟨h1,h2⟩ i hi;refine(one i).2 ⟨?_,λh0=>?_⟩
  .rw[at_ i hi];exact h1 _ (awg hi)
  .rw[at_ i hi,at_ (i-1) (by omega)];exact awX.1 h2 (i-1) i (by omega) hi (by omega)
theorem aiB{α:Type}[BEq α][LawfulBEq α]:∀(a b:List α),a.Nodup->(∀x∈a,x∈b)->a.length<=b.length
 |[],_,_,_=>avc _
 |x::r,b,hn,h=>by
  rw[List.nodup_cons]at hn;have hx:=h x au0;have ih:=aiB r (b.erase x) hn.2 λy hy=>by
   have hne:y≠x:=λe=>by subst e;exact hn.1 hy
   rw[List.mem_erase_of_ne hne];exact h y (auZ _ hy)
  rw[List.length_erase_of_mem hx]at ih;have:0<b.length:=List.length_pos_of_mem hx;rw[auQ];omega
theorem Uu:∀{fs:List dR}{s:Bytes},kindOf fs s≠0->s∈fs.map λf=>f.1
 |[],_,h=>(h rfl).elim
 |f::r,s,h=>by
  rw[kindOf]at h;by_cases e:f.1=s
  .rw[au8,e];exact au0
  .rw[au6 e]at h;rw[au8];exact auZ _ (Uu h)
theorem aia{fs:List dR}{as:List aW}(h:ji fs as=true):as.length<=fs.length:=by
 obtain⟨h1,h2⟩:=PD.1 h;have:=aiB (as.map λa=>a.1) (fs.map λf=>f.1) ?_ λs hs=>?_
 .rw[au7,au7]at this;exact this
 .unfold List.Nodup;rw[axU];exact h2.imp λ{a b} hab=>apL hab
 .obtain⟨a,ha,rfl⟩:=av1.1 hs;have hm:=h1 a ha;unfold iK at hm;simp only[auO,au1,awt,avt]at hm;exact Uu (by rw[← hm.2];exact hm.1.2)
end Sp
namespace Sp
open Go
def named(f:aS)(w:Bytes):aS:=(f.1,f.2.1,f.2.2.1,f.2.2.2.1,jb f.2.2.2.2.1 [110] 2 0 w,())
def aon(c:Ik)(u id:Int):Bool:=(Ul (Jj c) id).2&&aoi (Ul (Jj c) id).1 u
end Sp
namespace Sp
open Go
def l7(b:UInt8):Bool:=decide (32<=b.toNat)&&decide (b.toNat<=126)
def VL(s:Bytes):Bool:=s.all λb=>decide (b.toNat<128)
def wordsOf(s:Bytes):LS:=(Lib.fields s).map (·,())
def gZ(s:Bytes):Bool:=decide ((s.length:Int)<=600)&&s.all l7&&decide (((Lib.fields s).length:Int)<=24)
def bf(s:Bytes):LS:=bif gZ s then wordsOf s else[]
def jT(s:Bytes):Int:=s.foldl (λn b=>10*n+((b.toNat:Int)-48)) 0
def aY(s:Bytes):Bool:=fZ (jT s)&&(Lib.itoa (jT s)==s)
def parseNum(s:Bytes):Int:=bif aY s then jT s else 0
def wordAt(w:LS)(i:Int):Bytes:=bif decide (i>=(w.length:Int))then[]else(w.getD i.toNat ([],())).1
def gm(w:LS):Bytes:=Lib.join (w.map (·.1)) [32]
def numAt(w:LS)(i:Int):Int:=parseNum (wordAt w i)
def agQ(w:LS):Int×Int×Bytes×Int:=
 bif wordAt w 0==[99,111,109,109,105,116]then(1,numAt w 1,[],0)else
 bif wordAt w 0==[99,114,97,115,104]then(2,numAt w 1,[],numAt w 2)else
 bif wordAt w 0==[119,97,116,99,104]then(3,numAt w 1,wordAt w 2,0)else
 bif wordAt w 0==[112,105,110]then(4,0,[],numAt w 1)else
 bif wordAt w 0==[117,110,112,105,110]then(5,0,[],numAt w 1)else
 bif wordAt w 0==[99,111,108,108,101,99,116]then(6,0,[],0)else
 bif wordAt w 0==[97,100,100]then(7,numAt w 1,wordAt w 2,numAt w 3)else
 bif wordAt w 0==[114,101,109,111,118,101]then(8,numAt w 1,wordAt w 2,numAt w 3)else(0,0,[],0)
def apO(x:Int×Int×Bytes×Int):Bytes:=Uk x.1 x.2.1 0 x.2.2.1 x.2.2.2
end Sp
namespace Sp
open Go
theorem aoo(u:Nat):Lib.itoa (u:Int)=Lib.decDigits u:=by unfold Lib.itoa;rw[if_neg (by omega)];simp
theorem EF(s:Bytes)(d:UInt8):jT (s++[d])=10*jT s+((d.toNat:Int)-48):=by simp[jT,List.foldl_append]
theorem byte_of(d:Nat)(h:d<10):(UInt8.ofNat (48+d)).toNat=48+d:=by rw[UInt8.toNat_ofNat'];omega
theorem Rh(s:List UInt8):∀(acc:Nat)(n:Nat),Lib.decFrom acc s=some n->∀d,d<10->Lib.decFrom acc (s++[UInt8.ofNat (48+d)])=some (n*10+d):=by
 intro acc n h d hd
 induction s generalizing acc with
 |nil=>
  simp only[Lib.decFrom,Option.some.injEq]at h;subst h;have:∀d:Fin 10,Lib.digitVal (UInt8.ofNat (48+d.val))=some d.val:=by decide
  have h2:=this ⟨d,hd⟩;simp only[avJ,Lib.decFrom];rw[h2]
 |cons a r ih=>
  simp only[avY,Lib.decFrom]at h ⊢;cases hv:Lib.digitVal a with
  |none=>rw[hv]at h;simp at h
  |some x=>rw[hv]at h;simp only at h ⊢;exact ih _ h
theorem JK:∀(k u:Nat),u<10 ^ (k+1)->jT (Lib.decDigits u)=u/\Lib.decFrom 0 (Lib.decDigits u)=some u/\(∀b∈Lib.decDigits u,48<=b.toNat/\b.toNat<=57)/\Lib.decDigits u≠[]/\(Lib.decDigits u).length<=k+1
 |0,u,h=>by
  have h:u<10:=by simpa using h
  rw[Lib.decDigits_one h];have hb:=byte_of u h;have:=Rh [] 0 0 rfl u h;refine⟨?_,?_,λb hm=>?_,axz _ _,auT _⟩
  .have:=EF [] (UInt8.ofNat (48+u));rw[avJ]at this;rw[this,hb];show 10*0+_=_;omega
  .rw[avJ,awZ,avm]at this;exact this
  .rw[avg]at hm;subst hm;omega
 |k+1,u,h=>by
  by_cases h1:u<10
  .have:=JK 0 u (by simpa using h1);exact⟨this.1,this.2.1,this.2.2.1,this.2.2.2.1,by omega⟩
  .have hd:u / 10<10 ^ (k+1):=by rw[Nat.pow_succ]at h;omega
   obtain⟨i1,i2,i3,i4,i5⟩:=JK k (u / 10) hd;have e:Lib.decDigits u=Lib.decDigits (u / 10)++[UInt8.ofNat (48+u%10)]:=by
    conv=>lhs;rw[Lib.decDigits,dif_neg h1]
   have hm:u%10<10:=axE _ (by decide);have hb:=byte_of (u%10) hm;rw[e];refine⟨by rw[EF,i1,hb];omega,?_,λb hb2=>?_,by simp,by simp;omega⟩
   .rw[Rh _ _ _ i2 _ hm];congr 1;omega
   .rcases avf.1 hb2 with h2|h2
    .exact i3 b h2
    .rw[avg]at h2;subst h2;omega
theorem lS{n:Int}:fZ n=true↔0<=n/\n<=1000000000:=by unfold fZ;rw[auO,au1,au1]
theorem kF{n:Int}(h:fZ n=true):jT (Lib.itoa n)=n/\Lib.atoi (Lib.itoa n)=some n/\(∀b∈Lib.itoa n,48<=b.toNat/\b.toNat<=57)/\Lib.itoa n≠[]/\(Lib.itoa n).length<=10:=by
 obtain⟨h0,h1⟩:=lS.1 h;obtain⟨u,rfl⟩:=Int.eq_ofNat_of_zero_le h0;have hu:u<10 ^ (9+1):=by omega
 rw[aoo];obtain⟨i1,i2,i3,i4,i5⟩:=JK 9 u hu;refine⟨i1,?_,i3,i4,i5⟩;cases hd:Lib.decDigits u with
 |nil=>exact absurd hd i4
 |cons b r=>
  have hb:=i3 b (by rw[hd];simp);rw[hd]at i2;have n45:(b==45)=false:=by rw[auP];intro e;subst e;revert hb;decide
  have n43:(b==43)=false:=by rw[auP];intro e;subst e;revert hb;decide
  simp only[Lib.atoi,n45,n43,Lib.decNat,awe,axb,List.isEmpty_cons,i2,avM]
theorem Eg{s:Bytes}:aY s=true↔fZ (jT s)=true/\Lib.itoa (jT s)=s:=by unfold aY;rw[auO,avj]
theorem Sz{s:Bytes}{n:Int}(h:fZ n=true)(e:Lib.itoa n=s):aY s=true/\parseNum s=n:=by
 have hv:jT s=n:=by rw[← e];exact(kF h).1
 have:aY s=true:=Eg.2 ⟨by rw[hv];exact h,by rw[hv];exact e⟩;exact⟨this,by unfold parseNum;rw[this];exact hv⟩
theorem rE{n:Int}(h:fZ n=true):aY (Lib.itoa n)=true/\parseNum (Lib.itoa n)=n:=Sz h rfl
theorem jF{s:Bytes}(h:aY s=true):Lib.itoa (parseNum s)=s/\fZ (parseNum s)=true:=by
 have e:parseNum s=jT s:=by unfold parseNum;rw[h];rfl
 rw[e];exact⟨(Eg.1 h).2,(Eg.1 h).1⟩
theorem A7(s:Bytes):fZ (parseNum s)=true:=by
 cases h:aY s with
 |true=>exact(jF h).2
 |false=>unfold parseNum;rw[h];rfl
theorem Ec{s:Bytes}(h:aY s=false):parseNum s=0:=by unfold parseNum;rw[h];rfl
theorem agx{s:Bytes}(h:aY s=true):s.length<=10:=by
 have:=(kF (jF h).2).2.2.2.2
 rwa [(jF h).1]at this
theorem WL{s:Bytes}(h:10<s.length):aY s=false:=by
 cases hp:aY s with
 |false=>rfl
 |true=>have:=agx hp;omega
theorem Ri{s:Bytes}(h:aY s=true):∀b∈s,48<=b.toNat/\b.toNat<=57:=by
 have:=(kF (jF h).2).2.2.1
 rwa [(jF h).1]at this
end Sp
namespace Sp
open Go
def Uw(x:Bytes):Prop:=x≠[]/\∀b∈x,Lib.isSp b=false
theorem JL:∀(x cur l:Bytes),(∀b∈x,Lib.isSp b=false)->Lib.fieldsGo cur (x++l)=Lib.fieldsGo (cur++x) l
 |[],cur,l,_=>by rw[avi,avJ]
 |b::x,cur,l,h=>by rw[avY,Lib.fieldsGo_more _ _ _ (h b au0),JL x _ l (λc hc=>h c (auZ _ hc)),au4];rfl
theorem U1:∀(r:List Bytes)(x:Bytes),x≠[]->(∀y∈r,Uw y)->Lib.fieldsGo x (Lib.joinTail [32] r)=x::r
 |[],x,hx,_=>by
  cases x with
  |nil=>exact absurd rfl hx
  |cons _ _=>simp[Lib.joinTail,Lib.fieldsGo]
 |y::r,x,hx,h=>by
  have hy:=h y au0;have e:Lib.joinTail [32] (y::r)=32::(y++Lib.joinTail [32] r):=by simp[Lib.joinTail]
  rw[e,Lib.fieldsGo_end x 32 _ (by decide) hx,JL y [] _ hy.2,avJ,U1 r y hy.1 λz hz=>h z (auZ _ hz)]
theorem ZE:∀ws:List Bytes,(∀x∈ws,Uw x)->Lib.fields (Lib.join ws [32])=ws
 |[],_=>rfl
 |x::r,h=>by have hx:=h x au0;unfold Lib.fields;rw[Lib.join_cons,JL x [] _ hx.2,avJ,U1 r x hx.1 λz hz=>h z (auZ _ hz)]
theorem map_unit:∀w:LS,(w.map (·.1)).map (·,())=w
 |[]=>rfl
 |(_,())::r=>by rw[au8,au8,map_unit r]
theorem aiC(ws:List Bytes)(h:∀x∈ws,Uw x):wordsOf (Lib.join ws [32])=ws.map (·,()):=by unfold wordsOf;rw[ZE ws h]
theorem adi{n:Int}(h:fZ n=true):Uw (Lib.itoa n):=by
 obtain⟨_,_,h3,h4,_⟩:=kF h;refine⟨h4,λb hb=>?_⟩;have:=h3 b hb;unfold Lib.isSp;have ne:∀c:UInt8,c.toNat<48->(b==c)=false:=λc hc=>by rw[auP];intro e;subst e;omega
 rw[ne 9 (by decide),ne 10 (by decide),ne 11 (by decide),ne 12 (by decide),ne 13 (by decide),ne 32 (by decide)];rfl
theorem ajw{s:Bytes}(h:aT s=true):Uw s:=by
 unfold aT lower at h;rw[auO,auO,au9,au1,au1]at h;refine⟨λe=>by subst e;simp at h,λb hb=>?_⟩;have:=h.1.1 b hb;rw[auO,au1,au1]at this;unfold Lib.isSp;have ne:∀c:UInt8,c.toNat<97->(b==c)=false:=λc hc=>by rw[auP];intro e;subst e;omega
 rw[ne 9 (by decide),ne 10 (by decide),ne 11 (by decide),ne 12 (by decide),ne 13 (by decide),ne 32 (by decide)];rfl
def aiD:Bytes:=[99,111,109,109,105,116]
def akh:Bytes:=[99,114,97,115,104]
def aki:Bytes:=[119,97,116,99,104]
def ao2:Bytes:=[112,105,110]
def akj:Bytes:=[117,110,112,105,110]
def afH:Bytes:=[99,111,108,108,101,99,116]
def ao3:Bytes:=[97,100,100]
def aiE:Bytes:=[114,101,109,111,118,101]
theorem TN(x y:Bytes):Lib.join [x,y] [32]=x++32::y:=by rw[Lib.join_cons];simp[Lib.joinTail]
theorem acQ(x y z:Bytes):Lib.join [x,y,z] [32]=x++32::(y++32::z):=by rw[Lib.join_cons];simp[Lib.joinTail]
end Sp
namespace Sp
open Go
theorem aop(w:LS):agQ w=
 (bif wordAt w 0==aiD then(1,numAt w 1,[],0)else bif wordAt w 0==akh then(2,numAt w 1,[],numAt w 2)else bif wordAt w 0==aki then(3,numAt w 1,wordAt w 2,0)else
   bif wordAt w 0==ao2 then(4,0,[],numAt w 1)else bif wordAt w 0==akj then(5,0,[],numAt w 1)else bif wordAt w 0==afH then(6,0,[],0)else
   bif wordAt w 0==ao3 then(7,numAt w 1,wordAt w 2,numAt w 3)else bif wordAt w 0==aiE then(8,numAt w 1,wordAt w 2,numAt w 3)else(0,0,[],0)):=rfl
theorem QL(w:LS)(i:Int)(h:wordAt w i=Lib.itoa (numAt w i)):aY (wordAt w i)=true:=by rw[h];exact(rE (A7 _)).1
end Sp
namespace Sp
open Go
theorem alo(b:UInt8):(decide ((32:Int)<=IntKind.i64.wrap (b.toNat:Int))&&decide (IntKind.i64.wrap (b.toNat:Int)<=126))=l7 b:=by
 have e:IntKind.i64.wrap (b.toNat:Int)=b.toNat:=by rw[IntKind.wrap_i64];have:=b.toNat_lt;omega
 rw[e];unfold l7;congr 1
 .exact decide_eq_decide.2 (by omega)
 .exact decide_eq_decide.2 (by omega)
theorem AB{b:UInt8}:l7 b=true↔32<=b.toNat/\b.toNat<=126:=by unfold l7;rw[auO,au1,au1]
theorem aii{p:UInt8->Bool}{s:Bytes}(h:∀i,i<s.length->p (s.getD i 0)=true):s.all p=true:=by
 rw[au9];intro x hx;obtain⟨i,hi,rfl⟩:=awF.1 hx;have:=h i hi
 rwa [auS,auX hi]at this
theorem aaY{p:UInt8->Bool}{s:Bytes}(h:s.all p=true){i:Nat}(hi:i<s.length):p (s.getD i 0)=true:=by rw[auS,auX hi];exact au9.1 h _ (awg hi)
theorem aeP{b:UInt8}(h:l7 b=true):Lib.isSp b=(b==32):=by
 have h:=AB.1 h;unfold Lib.isSp;have ne:∀c:UInt8,c.toNat<32->(b==c)=false:=λc hc=>by rw[auP];intro e;subst e;omega
 rw[ne 9 (by decide),ne 10 (by decide),ne 11 (by decide),ne 12 (by decide),ne 13 (by decide)];rfl
theorem an9{s:Bytes}(h:s.all l7=true):VL s=true:=by unfold VL;rw[au9]at h ⊢;intro b hb;have:=AB.1 (h b hb);rw[au1];omega
theorem qZ{s:Bytes}:gZ s=true↔s.length<=600/\s.all l7=true/\(Lib.fields s).length<=24:=by
 unfold gZ;rw[auO,auO,au1,au1];constructor
 .rintro⟨⟨h1,h2⟩,h3⟩;exact⟨by omega,h2,by omega⟩
 .rintro⟨h1,h2,h3⟩;exact⟨⟨by omega,h2⟩,by omega⟩
theorem afz{s:Bytes}(h:gZ s=true):(bf s,gZ s,())=(wordsOf s,true,()):=by unfold bf;rw[h];rfl
theorem EO{s:Bytes}(h:¬(s.length<=600/\s.all l7=true/\(Lib.fields s).length<=24)):(bf s,gZ s,())=(([]:LS),false,()):=by
 have:gZ s=false:=by
  cases hs:gZ s with
  |false=>rfl
  |true=>exact(h (qZ.1 hs)).elim
 unfold bf;rw[this];rfl
theorem vH(s:Bytes):(wordsOf s).length=(Lib.fields s).length:=by unfold wordsOf;rw[au7]
def splitAt(s:Bytes)(n b:Nat)(out:LS):Prop:=
 b<=n/\n<=s.length+1/\out.length<=n/\(∀i,i<n->i<s.length->l7 (s.getD i 0)=true)/\
 (n<=s.length->out.map (·.1)++Lib.fieldsGo ((s.take n).drop b) (s.drop n)=Lib.fields s)/\(n=s.length+1->out.map (·.1)=Lib.fields s)
theorem aic(s:Bytes):splitAt s 0 0 []:=⟨auT _,avc _,auT _,λi hi=>absurd hi (avR _),λ_=>by simp[Lib.fields],λh=>by omega⟩
theorem aif{s:Bytes}{n b:Nat}{out:LS}(h:splitAt s n b out)(hn:n<s.length)(ho:l7 (s.getD n 0)=true)(hc:s.getD n 0≠32):splitAt s (n+1) b out:=by
 obtain⟨h1,h2,h3,h4,h5,h6⟩:=h;refine⟨by omega,by omega,by omega,λi hi hi2=>?_,λ_=>?_,λh=>by omega⟩
 .rcases avb i n with h|h
  .exact h4 i h hi2
  · rwa [show i=n by omega]
 .rw[← h5 (by omega),Fw.drop_cons s n 0 hn,Lib.fieldsGo_more _ _ _ (by rw[aeP ho];exact auP.2 hc)];congr 2;rw[List.take_add_one,auX hn,auS,auX hn,axg];show List.drop b (List.take n s++[s[n]])=_;rw[awl (by rw[auY];omega)]
theorem aid{s:Bytes}{n b:Nat}{out:LS}(h:splitAt s n b out)(hn:n<=s.length)(hb:b<n)(ho:n<s.length->l7 (s.getD n 0)=true/\s.getD n 0=32):
 splitAt s (n+1) (n+1) (out++[((s.take n).drop b,())]):=by
 obtain⟨h1,h2,h3,h4,h5,h6⟩:=h;have hne:(s.take n).drop b≠[]:=λe=>by have:=congrArg List.length e;simp at this;omega
 refine⟨auT _,by omega,by simp;omega,λi hi hi2=>?_,λhl=>?_,λhl=>?_⟩
 .rcases avb i n with h|h
  .exact h4 i h hi2
  .rw[show i=n by omega];exact(ho (by omega)).1
 .have hn2:n<s.length:=by omega
  obtain⟨o1,o2⟩:=ho hn2;rw[← h5 hn,Fw.drop_cons s n 0 hn2,Lib.fieldsGo_end _ _ _ (by rw[aeP o1,o2];rfl) hne,(av6 (by rw[auY];omega):(s.take (n+1)).drop (n+1)=[]),avN,au4];rfl
 .have hn2:n=s.length:=by omega
  rw[← h5 hn,av6 (by omega:s.length<=n),avN];cases hcur:(s.take n).drop b with
  |nil=>exact absurd hcur hne
  |cons _ _=>simp[Lib.fieldsGo]
theorem aie{s:Bytes}{n b:Nat}{out:LS}(h:splitAt s n b out)(hn:n<=s.length)(hb:¬b<n)(ho:n<s.length->l7 (s.getD n 0)=true/\s.getD n 0=32):splitAt s (n+1) (n+1) out:=by
 obtain⟨h1,h2,h3,h4,h5,h6⟩:=h;have he:(s.take n).drop b=[]:=av6 (by rw[auY];omega);refine⟨auT _,by omega,by omega,λi hi hi2=>?_,λhl=>?_,λhl=>?_⟩
 .rcases avb i n with h|h
  .exact h4 i h hi2
  .rw[show i=n by omega];exact(ho (by omega)).1
 .have hn2:n<s.length:=by omega
  obtain⟨o1,o2⟩:=ho hn2;rw[← h5 hn,he,Fw.drop_cons s n 0 hn2,Lib.fieldsGo_sp _ _ (by rw[aeP o1,o2];rfl),av6 (by rw[auY];omega)]
 .rw[← h5 hn,he,av6 (by omega:s.length<=n)];simp[Lib.fieldsGo]
theorem ajn{s:Bytes}{b:Nat}{out:LS}(h:splitAt s (s.length+1) b out):s.all l7=true/\out=wordsOf s:=by obtain⟨h1,h2,h3,h4,h5,h6⟩:=h;refine⟨aii λi hi=>h4 i (by omega) hi,?_⟩;unfold wordsOf;rw[← h6 rfl,map_unit]
def aeQ(s:Bytes):Prop:=∀b∈s,48<=b.toNat/\b.toNat<=57
theorem MZ:∀(k:Nat)(s:Bytes),s.length=k->aeQ s->0<=jT s/\jT s<(10:Int) ^ k
 |0,s,h,_=>by rw[avH.1 h];exact⟨avI _,by decide⟩
 |k+1,s,h,hd=>by
  have hne:s≠[]:=λe=>by rw[e]at h;cases h
  have e:s=s.take k++[s[k]'(by omega)]:=by
   conv=>lhs;rw[← awy k s,awk (by omega:k<s.length),av6 (by omega:s.length<=k+1)]
  have hd1:aeQ (s.take k):=λb hb=>hd b (awq hb);obtain⟨i1,i2⟩:=MZ k (s.take k) (by rw[auY];omega) hd1;have hb:=hd _ (awg (by omega:k<s.length));rw[e,EF,Int.pow_succ];omega
theorem ajm{s:Bytes}{n:Nat}(hn:n<s.length):jT (s.take (n+1))=10*jT (s.take n)+(((s.getD n 0).toNat:Int)-48):=by rw[List.take_add_one,auX hn,auS,auX hn];exact EF _ _
theorem aib{s:Bytes}{n:Nat}(hn:n<s.length)(hl:s.length<=10)(hd:∀i,i<n->48<=(s.getD i 0).toNat/\(s.getD i 0).toNat<=57):0<=jT (s.take n)/\jT (s.take n)<1000000000:=by
 have hd:aeQ (s.take n):=by
  intro b hb;obtain⟨i,hi,rfl⟩:=awF.1 hb;have hi2:i<n:=by rw[auY]at hi;omega
  have:=hd i hi2;rw[auS,auX (by omega)]at this;simpa using this
 obtain⟨h1,h2⟩:=MZ n (s.take n) (by rw[auY];omega) hd;refine⟨h1,Int.lt_of_lt_of_le h2 ?_⟩;have:n<=9:=by omega
 match n,this with
 |0,_|1,_|2,_|3,_|4,_|5,_|6,_|7,_|8,_|9,_=>decide
theorem OD{s:Bytes}{i:Nat}(hi:i<s.length)(h:¬(48<=(s.getD i 0).toNat/\(s.getD i 0).toNat<=57)):aY s=false:=by
 cases hp:aY s with
 |false=>rfl
 |true=>refine(h (Ri hp _ ?_)).elim;rw[auS,auX hi];exact awg hi
theorem MX{s:Bytes}(h:aY s=false):((0:Int),false,())=(parseNum s,aY s,()):=by rw[Ec h,h]
theorem aln{p:LS}{n:Nat}(hn:n<p.length):gm (p.take (n+1))=(if n=0 then[]else gm (p.take n)++[32])++(p.getD n ([],())).1:=by
 cases p with
 |nil=>cases hn
 |cons x r=>
  unfold gm;cases n with
  |zero=>simp[Lib.join_one]
  |succ n=>
   have hr:n<r.length:=by simpa using hn
   have e:(r.map (·.1))[n]? =some r[n].1:=by rw[avK,auX hr];rfl
   rw[if_neg (by omega),awj,awj,au8,au8,Lib.join_cons,Lib.join_cons,List.map_take,List.map_take,Lib.joinTail_take_succ _ _ _ _ e];rw[auS,List.getElem?_cons_succ,auX hr];simp[au4]
theorem agr:∀(p:LS)(n:Nat),(gm (p.take n)).length<=(gm p).length
 |[],n=>by simp
 |x::r,0=>by simp[gm,Lib.join_nil]
 |x::r,n+1=>by unfold gm;rw[awj,au8,au8,Lib.join_cons,Lib.join_cons,List.map_take,auN,auN];have:=Lib.joinTail_take_le [32] (r.map (·.1)) n;omega
theorem qi{w:LS}{i:Int}(h:i<(w.length:Int)):wordAt w i=(w.getD i.toNat ([],())).1:=by unfold wordAt;rw[au6 (by omega)];rfl
theorem qj{w:LS}{i:Int}(h:i>=(w.length:Int)):wordAt w i=[]:=by unfold wordAt;rw[au2 h];rfl
theorem Bv{b:Bool}{x y:Bytes}(h1:b=true->x.length<=60)(h2:y.length<=60):(bif b then x else y).length<=60:=by
 cases b with
 |true=>exact h1 rfl
 |false=>exact h2
theorem pU{n:Bytes}(h:aT n=true):n.length<=6:=by unfold aT at h;rw[auO,au1]at h;omega
theorem agy(k u:Int)(nc:Nat)(n:Bytes)(a:Int):(Uk k u nc n a).length<=60:=by
 have z:([]:Bytes).length<=60:=by decide
 have hi:∀m:Int,fZ m=true->(Lib.itoa m).length<=10:=λm h=>(kF h).2.2.2.2;unfold Uk;refine Bv (λ_=>z) (Bv (λ_=>z) (Bv (λh=>?_) (Bv (λh=>?_) (Bv (λh=>?_) (Bv (λh=>?_) (Bv (λh=>?_) (Bv (λh=>?_) (Bv (λh=>?_) (Bv (λh=>?_) z)))))))))
 all_goals simp only[auO]at h
 all_goals simp only[auN,auQ,auW]
 .have:=hi u h.2.1;omega
 .have:=hi u h.2.1;have:=hi a h.2.2.1;omega
 .have:=hi u h.2.1;have:=pU h.2.2.1;omega
 .have:=hi a h.2.2.1;omega
 .have:=hi a h.2.2.1;omega
 .omega
 .have:=hi u h.2.1;have:=hi a h.2.2.1;have:=pU h.2.2.2;omega
 .have:=hi u h.2.1;have:=hi a h.2.2.1;have:=pU h.2.2.2;omega
theorem IB:∀(l cur:Bytes)(x:Bytes),x∈Lib.fieldsGo cur l->x.length<=cur.length+l.length
 |[],cur,x,h=>by
  rw[Lib.fieldsGo]at h;split at h
  .cases h
  .simp at h;subst h;simp
 |b::l,cur,x,h=>by
  rw[Lib.fieldsGo]at h;split at h
  .split at h
   .have:=IB l [] x h;simp at this ⊢;omega
   .rcases au3.1 h with rfl|h
    .simp
    .have:=IB l [] x h;simp at this ⊢;omega
  .have:=IB l (cur++[b]) x h;simp at this ⊢;omega
theorem Td{s:Bytes}:∀x∈wordsOf s,x.1.length<=s.length:=by intro x hx;obtain⟨y,hy,rfl⟩:=av1.1 hx;have:=IB s [] y hy;simpa using this
theorem uJ{w:LS}{m:Nat}(h:∀x∈w,x.1.length<=m)(i:Int):(wordAt w i).length<=m:=by
 unfold wordAt;cases decide (i>=(w.length:Int))with
 |true=>exact avc _
 |false=>
  show(w.getD i.toNat ([],())).1.length<=m;rw[auS];cases hg:w[i.toNat]? with
  |none=>exact avc _
  |some x=>exact h x (avx hg)
theorem agz{w:LS}{m:Nat}(h:∀x∈w,x.1.length<=m):(agQ w).2.2.1.length<=m:=by
 rw[aop];cases wordAt w 0==aiD with
 |true=>exact avc _
 |false=>
 cases wordAt w 0==akh with
 |true=>exact avc _
 |false=>
 cases wordAt w 0==aki with
 |true=>exact uJ h 2
 |false=>
 cases wordAt w 0==ao2 with
 |true=>exact avc _
 |false=>
 cases wordAt w 0==akj with
 |true=>exact avc _
 |false=>
 cases wordAt w 0==afH with
 |true=>exact avc _
 |false=>
 cases wordAt w 0==ao3 with
 |true=>exact uJ h 2
 |false=>
 cases wordAt w 0==aiE with
 |true=>exact uJ h 2
 |false=>exact avc _
theorem ZF{m:Nat}:∀r:List Bytes,(∀x∈r,x.length<=m)->(Lib.joinTail [32] r).length<=r.length*(m+1)
 |[],_=>avc _
 |x::r,h=>by
  have e:Lib.joinTail [32] (x::r)=[32]++(x++Lib.joinTail [32] r):=by simp[Lib.joinTail]
  have h1:=h x au0;have h2:=ZF r λy hy=>h y (auZ _ hy);have h3:(x::r).length*(m+1)=r.length*(m+1)+(m+1):=by rw[auQ,avw,axP]
  rw[e,auN,auN,h3];show 1+_<=_;omega
theorem aaN{m:Nat}{w:LS}(h:∀x∈w,x.1.length<=m):(gm w).length<=w.length*(m+1):=by
 cases w with
 |nil=>exact avc _
 |cons x r=>
  unfold gm;rw[au8,Lib.join_cons,auN];have h1:=h x au0;have h2:=ZF (m:=m) (r.map (·.1)) λy hy=>by obtain⟨z,hz,rfl⟩:=av1.1 hy;exact h z (auZ _ hz)
  rw[au7]at h2;rw[auQ,avw,axP];omega
theorem Zz{s:Bytes}(h:gZ s=true):bf s=wordsOf s/\(wordsOf s).length<=1000/\(gm (wordsOf s)).length<=2097152/\(agQ (wordsOf s)).2.2.1.length<=1048576/\(apO (agQ (wordsOf s))).length<=1048576:=by
 obtain⟨h1,_,h3⟩:=qZ.1 h;have hw:∀x∈wordsOf s,x.1.length<=600:=λx hx=>auU (Td x hx) h1;have hl:(wordsOf s).length<=24:=by rw[vH];exact h3
 refine⟨by unfold bf;rw[h];rfl,by omega,?_,auU (agz hw) (by omega),auU (agy _ _ _ _ _) (by omega)⟩;have:=aaN hw;have h24:(wordsOf s).length*(600+1)<=24*(600+1):=ave _ hl;omega
end Sp
namespace Sp
open Go
inductive QT where
 |leaf (n:ak)
 |neg (t:QT)
 |two (op:Int) (a b:QT)
def fU(op:Int):Bytes:=
 bif op==1 then[97,108,108]else bif op==2 then[104,97,115]else bif op==3 then[101,113]else bif op==4 then[108,116]else
 bif op==5 then[110,111,116]else bif op==6 then[97,110,100]else bif op==7 then[111,114]else bif op==8 then[105,110]else
 bif op==9 then[108,105,110,107,101,100]else[63]
def dF(w:Bytes):Int:=
 bif w==[97,108,108]then 1 else bif w==[104,97,115]then 2 else bif w==[101,113]then 3 else bif w==[108,116]then 4 else
 bif w==[110,111,116]then 5 else bif w==[97,110,100]then 6 else bif w==[111,114]then 7 else bif w==[105,110]then 8 else
 bif w==[108,105,110,107,101,100]then 9 else 0
def aV(s:Bytes):CZ×Bool:=
 bif aY s then(bif decide (parseNum s<=999)then((1,parseNum s,[],()),true)else((0,0,[],()),false))
 else bif s==[45]then((0,0,[],()),true)else bif aT s then((2,0,s,()),true)else((0,0,[],()),false)
def bn(v:CZ):Bytes:=
 bif !bF v.1 v.2.1 v.2.2.1 then[63]else bif v.1==1 then Lib.itoa v.2.1 else bif v.1==2 then v.2.2.1 else[45]
def QT.size:QT->Nat
 |.leaf _=>1
 |.neg t=>t.size+1
 |.two _ a b=>a.size+b.size+1
def post:QT->Nat->List ak
 |.leaf n,_=>[n]
 |.neg t,b=>post t b++[(5,((b+t.size:Nat):Int)-1,0,[],0,0,[],())]
 |.two op x y,b=>post x b++(post y (b+x.size)++[(op,((b+x.size:Nat):Int)-1,((b+x.size+y.size:Nat):Int)-1,[],0,0,[],())])
def jA(n:ak):List Bytes:=
 fU n.1::(bif n.1==2||(n.1==8||n.1==9)then[n.2.2.2.1]else bif n.1==3||n.1==4 then[n.2.2.2.1,bn n.2.2.2.2]else[])
def aH:QT->List Bytes
 |.leaf n=>jA n
 |.neg t=>fU 5::aH t
 |.two op a b=>fU op::(aH a++aH b)
def ls(w:List Bytes):LS:=w.map (·,())
def x9:QT->Prop
 |.leaf n=>n.1=1\/n.1=2\/n.1=3\/n.1=4\/n.1=8\/n.1=9
 |.neg t=>x9 t
 |.two op a b=>(op=6\/op=7)/\x9 a/\x9 b
def zL:QT->Prop
 |.leaf n=>dO n 0=true
 |.neg t=>zL t
 |.two _ a b=>zL a/\zL b
theorem eG:∀(t:QT)(b:Nat),(post t b).length=t.size
 |.leaf _,_=>rfl
 |.neg t,b=>by rw[post,auN,eG t b];rfl
 |.two op x y,b=>by rw[post,auN,auN,eG x b,eG y];rw[QT.size,auQ,auW];omega
theorem size_pos:∀t:QT,0<t.size
 |.leaf _=>Nat.one_pos
 |.neg _=>awi _
 |.two _ _ _=>awi _
theorem AL(w:Bytes):dF w=0\/((dF w=1\/dF w=2\/dF w=3\/dF w=4\/dF w=5\/dF w=6\/dF w=7\/dF w=8\/dF w=9)/\fU (dF w)=w):=by
 unfold dF;cases h1:w==[97,108,108]with
 |true=>right;rw[avj.1 h1];decide
 |false=>
 cases h2:w==[104,97,115]with
 |true=>right;rw[avj.1 h2];decide
 |false=>
 cases h3:w==[101,113]with
 |true=>right;rw[avj.1 h3];decide
 |false=>
 cases h4:w==[108,116]with
 |true=>right;rw[avj.1 h4];decide
 |false=>
 cases h5:w==[110,111,116]with
 |true=>right;rw[avj.1 h5];decide
 |false=>
 cases h6:w==[97,110,100]with
 |true=>right;rw[avj.1 h6];decide
 |false=>
 cases h7:w==[111,114]with
 |true=>right;rw[avj.1 h7];decide
 |false=>
 cases h8:w==[105,110]with
 |true=>right;rw[avj.1 h8];decide
 |false=>
 cases h9:w==[108,105,110,107,101,100]with
 |true=>right;rw[avj.1 h9];decide
 |false=>left;rfl
theorem zM{op:Int}(h:op=1\/op=2\/op=3\/op=4\/op=5\/op=6\/op=7\/op=8\/op=9):dF (fU op)=op:=by rcases h with rfl|rfl|rfl|rfl|rfl|rfl|rfl|rfl|rfl<;>decide
theorem aoq:dF []=0:=by decide
def rd:Nat->LS->List ak->Bool×LS×List ak
 |0,w,q=>(false,w,q)
 |k+1,w,q=>
  bif dF (wordAt w 0)==2||(dF (wordAt w 0)==8||dF (wordAt w 0)==9)then(true,(w.drop 1).drop 1,q++[(dF (wordAt w 0),0,0,wordAt (w.drop 1) 0,0,0,[],())])
  else bif dF (wordAt w 0)==3||dF (wordAt w 0)==4 then
   ((aV (wordAt ((w.drop 1).drop 1) 0)).2,((w.drop 1).drop 1).drop 1,q++[(dF (wordAt w 0),0,0,wordAt (w.drop 1) 0,(aV (wordAt ((w.drop 1).drop 1) 0)).1)])
  else bif dF (wordAt w 0)==5 then
   ((rd k (w.drop 1) q).1,(rd k (w.drop 1) q).2.1,(rd k (w.drop 1) q).2.2++[(5,((rd k (w.drop 1) q).2.2.length:Int)-1,0,[],0,0,[],())])
  else bif dF (wordAt w 0)==6||dF (wordAt w 0)==7 then
   (bif (rd k (w.drop 1) q).1 then
     ((rd k (rd k (w.drop 1) q).2.1 (rd k (w.drop 1) q).2.2).1,(rd k (rd k (w.drop 1) q).2.1 (rd k (w.drop 1) q).2.2).2.1,
       (rd k (rd k (w.drop 1) q).2.1 (rd k (w.drop 1) q).2.2).2.2++[(dF (wordAt w 0),((rd k (w.drop 1) q).2.2.length:Int)-1,((rd k (rd k (w.drop 1) q).2.1 (rd k (w.drop 1) q).2.2).2.2.length:Int)-1,[],0,0,[],())])
   else(false,(rd k (w.drop 1) q).2.1,(rd k (w.drop 1) q).2.2++[(dF (wordAt w 0),((rd k (w.drop 1) q).2.2.length:Int)-1,((rd k (w.drop 1) q).2.2.length:Int)-1,[],0,0,[],())]))
  else(!(dF (wordAt w 0)==0),w.drop 1,q++[(dF (wordAt w 0),0,0,[],0,0,[],())])
theorem KX(i:Int)(h:0<=i):wordAt [] i=[]:=qj (by simpa using h)
theorem eP(x:Bytes×Unit)(w:LS):wordAt (x::w) 0=x.1:=by rw[qi (by simp)];rfl
theorem Yh{w:LS}(h:dF (wordAt w 0)≠0):∃r,w=(fU (dF (wordAt w 0)),())::r/\w.drop 1=r:=by
 cases w with
 |nil=>exact(h (by rw[KX 0 (avI _)];exact aoq)).elim
 |cons x r=>
  obtain⟨x,⟨⟩⟩:=x;rcases AL (wordAt ((x,())::r) 0)with e|⟨_,e⟩
  .exact(h e).elim
  .refine⟨r,?_,rfl⟩;rw[e,eP]
theorem Nc:∀(k:Nat)(w:LS)(q:List ak),(rd k w q).2.1.length<=w.length
 |0,w,q=>auT _
 |k+1,w,q=>by
  have h1:=Nc k (w.drop 1) q;have h2:=Nc k (rd k (w.drop 1) q).2.1 (rd k (w.drop 1) q).2.2;have h3:(w.drop 1).length<=w.length:=by rw[avl];omega
  rw[rd];cases dF (wordAt w 0)==2||(dF (wordAt w 0)==8||dF (wordAt w 0)==9)with
  |true=>show((w.drop 1).drop 1).length<=_;rw[avl];omega
  |false=>
  cases dF (wordAt w 0)==3||dF (wordAt w 0)==4 with
  |true=>show(((w.drop 1).drop 1).drop 1).length<=_;rw[avl,avl];omega
  |false=>
  cases dF (wordAt w 0)==5 with
  |true=>exact auU h1 h3
  |false=>
  cases dF (wordAt w 0)==6||dF (wordAt w 0)==7 with
  |true=>
   show(bif (rd k (w.drop 1) q).1 then _ else _:Bool×LS×List ak).2.1.length<=_;cases (rd k (w.drop 1) q).1 with
   |true=>exact auU h2 (auU h1 h3)
   |false=>exact auU h1 h3
  |false=>exact h3
end Sp
namespace Sp
open Go
theorem alr{n:Int}{s:Bytes}(h:bF 1 n s=true):0<=n/\n<=999/\s=[]:=by unfold bF at h;simp at h;exact⟨h.1.1,h.1.2,h.2⟩
theorem aoY{n:Int}{s:Bytes}(h:bF 2 n s=true):aT s=true/\n=0:=by unfold bF at h;simp at h;exact h
theorem alE{v:CZ}(h:bF v.1 v.2.1 v.2.2.1=true)(h0:v.1≠0):(∃n,v=(1,n,[],())/\0<=n/\n<=999)\/∃s,v=(2,0,s,())/\aT s=true:=by
 obtain⟨k,n,s,⟨⟩⟩:=v;by_cases h1:k=1
 .subst h1;obtain⟨a,b,c⟩:=alr h;have c:s=[]:=c;subst c;exact .inl ⟨n,rfl,a,b⟩
 by_cases h2:k=2
 .subst h2;obtain⟨a,b⟩:=aoY h;have b:n=0:=b;subst b;exact .inr ⟨s,rfl,a⟩
 .unfold bF at h;dsimp only at h h0;rw[au6 h0,au6 h1,au6 h2]at h;cases h
theorem alF{s:Bytes}(h:aT s=true):∃b r,s=b::r/\97<=b.toNat:=by
 unfold aT at h;rw[auO,auO,au1]at h;cases s with
 |nil=>exact absurd h.1.2 (by decide)
 |cons b r=>refine⟨b,r,rfl,?_⟩;have h1:=h.1.1;unfold lower at h1;rw[avS,auO,auO,au1]at h1;exact h1.1.1
theorem agA{s:Bytes}(h:aT s=true):aY s=false/\(s==[45])=false:=by
 obtain⟨b,r,rfl,hb⟩:=alF h;refine⟨?_,?_⟩
 .cases hp:aY (b::r)with
  |false=>rfl
  |true=>have:=Ri hp b au0;omega
 .rw[auP];intro e;have:b=45:=(List.cons.inj e).1;rw[this]at hb;exact absurd hb (by decide)
theorem ZG:aY []=false:=by
 cases h:aY []with
 |false=>rfl
 |true=>obtain⟨a,b⟩:=jF h;exact((adi b).1 a).elim
theorem PL{v:CZ}(h:bF v.1 v.2.1 v.2.2.1=true)(h0:v.1≠0):aV (bn v)=(v,true):=by
 unfold bn;rw[h];rcases alE h h0 with⟨n,rfl,a,b⟩|⟨s,rfl,a⟩
 .show aV (Lib.itoa n)=_;have hu:fZ n=true:=by unfold fZ;rw[au2 a,au2 (show n<=1000000000 by omega)];rfl
  obtain⟨q1,q2⟩:=rE hu;unfold aV;rw[q1,q2,au2 b];rfl
 .show aV s=_;obtain⟨q1,q2⟩:=agA a;unfold aV;rw[q1,q2,a];rfl
theorem ZH{s:Bytes}(h:bF (aV s).1.1 (aV s).1.2.1 (aV s).1.2.2.1=true)(h0:(aV s).1.1≠0):(aV s).2=true/\bn (aV s).1=s:=by
 unfold bn;rw[h];revert h0;unfold aV;cases h1:aY s with
 |true=>
  cases h2:decide (parseNum s<=999)with
  |true=>exactλ_=>⟨rfl,(jF h1).1⟩
  |false=>exactλh0=>(h0 rfl).elim
 |false=>
  cases h2:s==[45]with
  |true=>exactλh0=>(h0 rfl).elim
  |false=>
   cases h3:aT s with
   |true=>exactλ_=>⟨rfl,rfl⟩
   |false=>exactλh0=>(h0 rfl).elim
theorem aeR{s:Bytes}(h:dB s=true):s≠[]:=by rintro rfl;exact absurd h (by decide)
theorem aiF{s:Bytes}(h:aT s=true):s≠[]:=by rintro rfl;exact absurd h (by decide)
theorem yc{n:ak}{a:Int}(h:dO n a=true)(hw:n.1=1\/n.1=2\/n.1=3\/n.1=4\/n.1=8\/n.1=9):
 n=(1,0,0,[],0,0,[],())\/(∃op s,n=(op,0,0,s,0,0,[],())/\(op=2\/op=8\/op=9)/\s≠[])\/
 ∃op s v,n=(op,0,0,s,v)/\(op=3\/op=4)/\s≠[]/\bF v.1 v.2.1 v.2.2.1=true/\v.1≠0:=by
 obtain⟨op,l,r,s,k,m,t,⟨⟩⟩:=n;dsimp only at hw;rcases hw with rfl|rfl|rfl|rfl|rfl|rfl
 .left;have h:((l==0&&r==0)&&(s==[]&&(k==0&&(m==0&&t==[]))))=true:=h;simp only[auO,avj]at h;rw[h.1.1,h.1.2,h.2.1,h.2.2.1,h.2.2.2.1,h.2.2.2.2]
 .right;left;have h:((l==0&&r==0)&&(k==0&&(m==0&&t==[]))&&dB s)=true:=h;simp only[auO,avj]at h;refine⟨2,s,?_,.inl rfl,aeR h.2⟩;rw[h.1.1.1,h.1.1.2,h.1.2.1,h.1.2.2.1,h.1.2.2.2]
 .right;right;have h:((l==0&&r==0)&&dB s&&bF k m t&&!(k==0))=true:=h;simp only[auO,avj,awt,auP]at h;refine⟨3,s,(k,m,t,()),?_,.inl rfl,aeR h.1.1.2,h.1.2,h.2⟩;rw[h.1.1.1.1,h.1.1.1.2]
 .right;right;have h:((l==0&&r==0)&&dB s&&bF k m t&&k==1)=true:=h;simp only[auO,avj]at h;refine⟨4,s,(k,m,t,()),?_,.inr rfl,aeR h.1.1.2,h.1.2,by dsimp only;omega⟩;rw[h.1.1.1.1,h.1.1.1.2]
 .right;left;have h:((l==0&&r==0)&&(k==0&&(m==0&&t==[]))&&aT s)=true:=h;simp only[auO,avj]at h;refine⟨8,s,?_,.inr (.inl rfl),aiF h.2⟩;rw[h.1.1.1,h.1.1.2,h.1.2.1,h.1.2.2.1,h.1.2.2.2]
 .right;left;have h:((l==0&&r==0)&&(k==0&&(m==0&&t==[]))&&aT s)=true:=h;simp only[auO,avj]at h;refine⟨9,s,?_,.inr (.inr rfl),aiF h.2⟩;rw[h.1.1.1,h.1.1.2,h.1.2.1,h.1.2.2.1,h.1.2.2.2]
theorem Bz{w:LS}(h:wordAt w 0≠[]):w=(wordAt w 0,())::w.drop 1:=by
 cases w with
 |nil=>exact(h (KX 0 (avI _))).elim
 |cons x r=>obtain⟨x,⟨⟩⟩:=x;rw[eP];rfl
theorem Yk:∀(k:Nat)(w:LS)(q:List ak),(rd k w q).1=true->∃t,x9 t/\(rd k w q).2.2=q++post t q.length/\(zL t->w=ls (aH t)++(rd k w q).2.1)
 |0,w,q,h=>by cases h
 |k+1,w,q,h=>by
  by_cases h0:dF (wordAt w 0)=0
  .rw[rd,h0]at h;cases h
  obtain⟨r,e,e2⟩:=Yh h0;rcases AL (wordAt w 0)with c|⟨c,_⟩
  .exact(h0 c).elim
  rw[rd]at h ⊢;rw[e2]at h ⊢;generalize dF (wordAt w 0)=op at h c e h0 ⊢;have Ux:op=2\/op=8\/op=9->∃t,x9 t/\q++[(op,0,0,wordAt r 0,0,0,[],())]=q++post t q.length/\(zL t->w=ls (aH t)++r.drop 1):=λc=>by
   refine⟨.leaf (op,0,0,wordAt r 0,0,0,[],()),?_,rfl,λht=>?_⟩
   .show op=1\/op=2\/op=3\/op=4\/op=8\/op=9;omega
   .have ht:dO (op,0,0,wordAt r 0,0,0,[],()) 0=true:=ht;have hn:wordAt r 0≠[]:=by
     rcases yc ht (by dsimp only;omega)with x|⟨_,s,x,_,hs⟩|⟨op',s,v,x,hop,_⟩
     .have:=congrArg (·.1) x;dsimp only at this;omega
     .have:=congrArg (λn:ak=>n.2.2.2.1) x;dsimp only at this;rw[this];exact hs
     .have:=congrArg (·.1) x;dsimp only at this;omega
    rw[e,Bz hn];have hb:(op==2||(op==8||op==9))=true:=by rcases c with rfl|rfl|rfl<;>rfl
    show _=ls (fU op::(bif op==2||(op==8||op==9)then[wordAt ((wordAt r 0,())::r.drop 1) 0]else _))++_;rw[hb,eP];rfl
  have adk:op=3\/op=4->∃t,x9 t/\q++[(op,0,0,wordAt r 0,(aV (wordAt (r.drop 1) 0)).1)]=q++post t q.length/\(zL t->w=ls (aH t)++(r.drop 1).drop 1):=λc=>by
   refine⟨.leaf (op,0,0,wordAt r 0,(aV (wordAt (r.drop 1) 0)).1),?_,rfl,λht=>?_⟩
   .show op=1\/op=2\/op=3\/op=4\/op=8\/op=9;omega
   .have ht:dO (op,0,0,wordAt r 0,(aV (wordAt (r.drop 1) 0)).1) 0=true:=ht;have hn:wordAt r 0≠[]/\(aV (wordAt (r.drop 1) 0)).2=true/\bn (aV (wordAt (r.drop 1) 0)).1=wordAt (r.drop 1) 0:=by
     rcases yc ht (by dsimp only;omega)with x|⟨op',s,x,hop,hs⟩|⟨op',s,v,x,hop,hs,hv,h1⟩
     .have:=congrArg (·.1) x;dsimp only at this;omega
     .have:=congrArg (·.1) x;dsimp only at this;omega
     .have x1:=congrArg (λn:ak=>n.2.2.2.1) x;have x2:=congrArg (λn:ak=>n.2.2.2.2) x;dsimp only at x1 x2;refine⟨by rw[x1];exact hs,ZH (by rw[x2];exact hv) (by rw[x2];exact h1)⟩
    have hw2:wordAt (r.drop 1) 0≠[]:=λe0=>by
     rw[e0]at hn;have:(aV []).2=false:=by unfold aV;rw[ZG];rfl
     rw[this]at hn;cases hn.2.1
    have hb:(op==2||(op==8||op==9))=false:=by rcases c with rfl|rfl<;>rfl
    have hb2:(op==3||op==4)=true:=by rcases c with rfl|rfl<;>rfl
    have e3:r=(wordAt r 0,())::(wordAt (r.drop 1) 0,())::(r.drop 1).drop 1:=by rw[← Bz hw2];exact Bz hn.1
    show _=ls (fU op::(bif op==2||(op==8||op==9)then _ else bif op==3||op==4 then[wordAt r 0,bn (aV (wordAt (r.drop 1) 0)).1]else _))++_;rw[hb,hb2,hn.2.2];exact e.trans (congrArg _ e3)
  have aiG:(op=6\/op=7)->(rd k r q).1=true->(rd k (rd k r q).2.1 (rd k r q).2.2).1=true->∃t,x9 t/\(rd k (rd k r q).2.1 (rd k r q).2.2).2.2++[(op,((rd k r q).2.2.length:Int)-1,((rd k (rd k r q).2.1 (rd k r q).2.2).2.2.length:Int)-1,[],0,0,[],())]=q++post t q.length/\(zL t->w=ls (aH t)++(rd k (rd k r q).2.1 (rd k r q).2.2).2.1):=λc g1 g2=>by
   obtain⟨x,x1,x2,x3⟩:=Yk k r q g1;obtain⟨y,y1,y2,y3⟩:=Yk k _ _ g2;have lx:(rd k r q).2.2.length=q.length+x.size:=by rw[x2,auN,eG]
   have ly:(rd k (rd k r q).2.1 (rd k r q).2.2).2.2.length=q.length+x.size+y.size:=by rw[y2,auN,eG,lx]
   refine⟨.two op x y,⟨c,x1,y1⟩,?_,λht=>?_⟩
   .rw[ly,lx,y2,lx,x2];show _=q++(post x q.length++(post y (q.length+x.size)++[_]));rw[au4,au4]
   .obtain⟨t1,t2⟩:zL x/\zL y:=ht;rw[e];show _=ls (fU op::(aH x++aH y))++_;unfold ls;rw[au8,avN,avY,au4];exact congrArg _ ((x3 t1).trans (congrArg _ (y3 t2)))
  rcases c with rfl|rfl|rfl|rfl|rfl|rfl|rfl|rfl|rfl
  .refine⟨.leaf (1,0,0,[],0,0,[],()),.inl rfl,rfl,λ_=>?_⟩;rw[e];rfl
  .exact Ux (.inl rfl)
  .exact adk (.inl rfl)
  .exact adk (.inr rfl)
  .have h:(rd k r q).1=true:=h;obtain⟨x,x1,x2,x3⟩:=Yk k r q h;have lx:(rd k r q).2.2.length=q.length+x.size:=by rw[x2,auN,eG]
   refine⟨.neg x,x1,?_,λht=>?_⟩
   .show(rd k r q).2.2++[(5,((rd k r q).2.2.length:Int)-1,0,[],0,0,[],())]=q++(post x q.length++[_]);rw[lx,x2,au4]
   .rw[e];show _=ls (fU 5::aH x)++(rd k r q).2.1;exact congrArg _ (x3 ht)
  .have h:(bif (rd k r q).1 then _ else _:Bool×LS×List ak).1=true:=h;cases g:(rd k r q).1 with
   |false=>rw[g]at h;cases h
   |true=>rw[g]at h;exact aiG (.inl rfl) g h
  .have h:(bif (rd k r q).1 then _ else _:Bool×LS×List ak).1=true:=h;cases g:(rd k r q).1 with
   |false=>rw[g]at h;cases h
   |true=>rw[g]at h;exact aiG (.inr rfl) g h
  .exact Ux (.inr (.inl rfl))
  .exact Ux (.inr (.inr rfl))
end Sp
namespace Sp
open Go
theorem aqK(k:Nat)(r:LS)(q:List ak):rd (k+1) ((fU 1,())::r) q=(true,r,q++[(1,0,0,[],0,0,[],())]):=by rw[rd,eP,zM (.inl rfl)];rfl
theorem apP{op:Int}(c:op=2\/op=8\/op=9)(k:Nat)(r:LS)(q:List ak):rd (k+1) ((fU op,())::r) q=(true,r.drop 1,q++[(op,0,0,wordAt r 0,0,0,[],())]):=by rw[rd,eP,zM (by omega)];rcases c with rfl|rfl|rfl<;>rfl
theorem rd_val{op:Int}(c:op=3\/op=4)(k:Nat)(r:LS)(q:List ak):rd (k+1) ((fU op,())::r) q=((aV (wordAt (r.drop 1) 0)).2,(r.drop 1).drop 1,q++[(op,0,0,wordAt r 0,(aV (wordAt (r.drop 1) 0)).1)]):=by rw[rd,eP,zM (by omega)];rcases c with rfl|rfl<;>rfl
theorem rd_not(k:Nat)(r:LS)(q:List ak):rd (k+1) ((fU 5,())::r) q=((rd k r q).1,(rd k r q).2.1,(rd k r q).2.2++[(5,((rd k r q).2.2.length:Int)-1,0,[],0,0,[],())]):=by rw[rd,eP,zM (.inr (.inr (.inr (.inr (.inl rfl)))))];rfl
theorem aqL{op:Int}(c:op=6\/op=7)(k:Nat)(r:LS)(q:List ak)(h:(rd k r q).1=true):rd (k+1) ((fU op,())::r) q=
 ((rd k (rd k r q).2.1 (rd k r q).2.2).1,(rd k (rd k r q).2.1 (rd k r q).2.2).2.1,(rd k (rd k r q).2.1 (rd k r q).2.2).2.2++[(op,((rd k r q).2.2.length:Int)-1,((rd k (rd k r q).2.1 (rd k r q).2.2).2.2.length:Int)-1,[],0,0,[],())]):=by
 rw[rd,eP,zM (by omega)];rcases c with rfl|rfl
 .show(bif (rd k r q).1 then _ else _:Bool×LS×List ak)=_;rw[h];rfl
 .show(bif (rd k r q).1 then _ else _:Bool×LS×List ak)=_;rw[h];rfl
theorem aiH(x:Bytes)(a b:List Bytes)(r:LS):ls (x::(a++b))++r=(x,())::(ls a++(ls b++r)):=by unfold ls;rw[au8,avN,avY,au4]
theorem Dq{op:Int}{s:Bytes}(c:op=2\/op=8\/op=9):jA (op,0,0,s,0,0,[],())=[fU op,s]:=by rcases c with rfl|rfl|rfl<;>rfl
theorem FD{op:Int}{s:Bytes}{v:CZ}(c:op=3\/op=4):jA (op,0,0,s,v)=[fU op,s,bn v]:=by rcases c with rfl|rfl<;>rfl
theorem Nl:∀(t:QT)(k:Nat)(rest:LS)(q:List ak),x9 t->zL t->(ls (aH t)++rest).length<k->rd k (ls (aH t)++rest) q=(true,rest,q++post t q.length)
 |_,0,_,_,_,_,h=>absurd h (avR _)
 |.leaf n,k+1,rest,q,hw,ho,_=>by
  have hw:n.1=1\/n.1=2\/n.1=3\/n.1=4\/n.1=8\/n.1=9:=hw;rcases yc ho hw with rfl|⟨op,s,rfl,c,hs⟩|⟨op,s,v,rfl,c,hs,hv,h0⟩
  .exact aqK k rest q
  .show rd (k+1) (ls (jA _)++rest) q=_;rw[Dq c];show rd (k+1) ((fU op,())::(s,())::rest) q=_;rw[apP c,eP];rfl
  .show rd (k+1) (ls (jA _)++rest) q=_;rw[FD c];show rd (k+1) ((fU op,())::(s,())::(bn v,())::rest) q=_;rw[rd_val c,eP];show((aV (wordAt ((bn v,())::rest) 0)).2,rest,q++[(op,0,0,s,(aV (wordAt ((bn v,())::rest) 0)).1)])=_;rw[eP,PL hv h0];rfl
 |.neg t,k+1,rest,q,hw,ho,h=>by
  have h:((fU 5,())::(ls (aH t)++rest)).length<k+1:=h;rw[auQ]at h;show rd (k+1) ((fU 5,())::(ls (aH t)++rest)) q=_;rw[rd_not,Nl t k rest q hw ho (by omega)];show(true,rest,(q++post t q.length)++[(5,((q++post t q.length).length:Int)-1,0,[],0,0,[],())])=(true,rest,q++(post t q.length++[_]));rw[auN,eG,au4]
 |.two op x y,k+1,rest,q,⟨c,w1,w2⟩,⟨o1,o2⟩,h=>by show rd (k+1) (ls (fU op::(aH x++aH y))++rest) q=_;have h:(ls (fU op::(aH x++aH y))++rest).length<k+1:=h;rw[aiH]at h ⊢;rw[auQ]at h;have e1:=Nl x k (ls (aH y)++rest) q w1 o1 (by omega);rw[auN]at h;have e2:=Nl y k rest (q++post x q.length) w2 o2 (by omega);rw[aqL c k _ q (by rw[e1]),e1,e2];show(true,rest,((q++post x q.length)++post y (q++post x q.length).length)++[(op,((q++post x q.length).length:Int)-1,(((q++post x q.length)++post y (q++post x q.length).length).length:Int)-1,[],0,0,[],())])=(true,rest,q++(post x q.length++(post y (q.length+x.size)++[_])));rw[auN,auN,eG,eG,auN,eG,au4,au4]
def rs:Nat->LS->List ak->List ak×Int
 |0,_,q=>(q,0)
 |d+1,w,q=>
  bif dF (wordAt w 0)==0||decide ((q.length:Int)>9)then(q,0)
  else bif dF (wordAt w 0)==2||(dF (wordAt w 0)==8||dF (wordAt w 0)==9)then(q++[(dF (wordAt w 0),0,0,wordAt w 1,0,0,[],())],2)
  else bif dF (wordAt w 0)==3||dF (wordAt w 0)==4 then(q++[(dF (wordAt w 0),0,0,wordAt w 1,(aV (wordAt w 2)).1)],3)
  else bif dF (wordAt w 0)==5||(dF (wordAt w 0)==6||dF (wordAt w 0)==7)then
   (bif (rs d (w.drop 1) q).2==0 then((rs d (w.drop 1) q).1,0)
   else bif dF (wordAt w 0)==5 then((rs d (w.drop 1) q).1++[(5,((rs d (w.drop 1) q).1.length:Int)-1,0,[],0,0,[],())],1+(rs d (w.drop 1) q).2)
   else bif (rs d (w.drop (1+(rs d (w.drop 1) q).2).toNat) (rs d (w.drop 1) q).1).2==0 then((rs d (w.drop (1+(rs d (w.drop 1) q).2).toNat) (rs d (w.drop 1) q).1).1,0)
   else((rs d (w.drop (1+(rs d (w.drop 1) q).2).toNat) (rs d (w.drop 1) q).1).1++[(dF (wordAt w 0),((rs d (w.drop 1) q).1.length:Int)-1,((rs d (w.drop (1+(rs d (w.drop 1) q).2).toNat) (rs d (w.drop 1) q).1).1.length:Int)-1,[],0,0,[],())],
    1+(rs d (w.drop 1) q).2+(rs d (w.drop (1+(rs d (w.drop 1) q).2).toNat) (rs d (w.drop 1) q).1).2))
  else(q++[(dF (wordAt w 0),0,0,[],0,0,[],())],1)
theorem Ei(x:Bytes×Unit)(r:LS)(i:Int)(h:0<=i):wordAt (x::r) (i+1)=wordAt r i:=by
 by_cases hi:i<(r.length:Int)
 .rw[qi hi,qi (by rw[auQ];omega),show(i+1).toNat=i.toNat+1 by omega];rfl
 .rw[qj (show i>=(r.length:Int) by omega),qj (by rw[auQ];omega)]
theorem adl(x:Bytes×Unit)(r:LS):wordAt (x::r) 2=wordAt (r.drop 1) 0:=by
 rw[show(2:Int)=1+1 from rfl,Ei x r 1 (by decide)];cases r with
 |nil=>rw[KX 1 (by decide)];exact(KX 0 (by decide)).symm
 |cons y r=>rw[show(1:Int)=0+1 from rfl,Ei y r 0 (by decide)];rfl
theorem KY(x:Bytes×Unit)(r:LS):wordAt (x::r) 1=wordAt r 0:=Ei x r 0 (by decide)
theorem Uy:∀(t:QT)(d:Nat)(rest:LS)(q:List ak),x9 t->zL t->t.size<=d->q.length+t.size<=10->rs d (ls (aH t)++rest) q=(q++post t q.length,((aH t).length:Int))
 |t,0,_,_,_,_,h,_=>absurd (size_pos t) (by omega)
 |.leaf n,d+1,rest,q,hw,ho,_,hq=>by
  have hq1:q.length+1<=10:=hq;have hq2:decide ((q.length:Int)>9)=false:=au6 (by omega);have hw:n.1=1\/n.1=2\/n.1=3\/n.1=4\/n.1=8\/n.1=9:=hw;rcases yc ho hw with rfl|⟨op,s,rfl,c,hs⟩|⟨op,s,v,rfl,c,hs,hv,h0⟩
  .show rs (d+1) ((fU 1,())::rest) q=_;rw[rs,eP,zM (.inl rfl),hq2];rfl
  .show rs (d+1) (ls (jA _)++rest) q=(_,((jA _).length:Int));rw[Dq c];show rs (d+1) ((fU op,())::(s,())::rest) q=_;rw[rs,KY,eP,eP,zM (by omega),hq2];rcases c with rfl|rfl|rfl<;>rfl
  .show rs (d+1) (ls (jA _)++rest) q=(_,((jA _).length:Int));rw[FD c];show rs (d+1) ((fU op,())::(s,())::(bn v,())::rest) q=_;rw[rs,KY,adl,eP,eP,zM (by omega),hq2];have e:wordAt (List.drop 1 ((s,())::(bn v,())::rest)) 0=bn v:=eP _ _;rw[e,PL hv h0];rcases c with rfl|rfl<;>rfl
 |.neg t,d+1,rest,q,hw,ho,hd,hq=>by
  have hd:t.size+1<=d+1:=hd;have hq:q.length+(t.size+1)<=10:=hq;have hq':decide ((q.length:Int)>9)=false:=au6 (by omega);have e:=Uy t d rest q hw ho (by omega) (by omega);have hl:0<(aH t).length:=by
   cases t with
   |leaf n=>exact awi _
   |neg t=>exact awi _
   |two op a b=>exact awi _
  show rs (d+1) ((fU 5,())::(ls (aH t)++rest)) q=_;rw[rs,eP,zM (.inr (.inr (.inr (.inr (.inl rfl))))),hq'];show(bif (rs d (ls (aH t)++rest) q).2==0 then _ else(_,1+(rs d (ls (aH t)++rest) q).2):List ak×Int)=_;rw[show List.drop 1 ((fU 5,())::(ls (aH t)++rest))=ls (aH t)++rest from rfl,e];rw[show(((aH t).length:Int)==0)=false from auP.2 (by omega)];show((q++post t q.length)++[(5,((q++post t q.length).length:Int)-1,0,[],0,0,[],())],1+((aH t).length:Int))=(q++(post t q.length++[_]),(((aH t).length+1:Nat):Int));rw[auN,eG,au4,show(1+((aH t).length:Int))=(((aH t).length+1:Nat):Int) by omega]
 |.two op x y,d+1,rest,q,⟨c,w1,w2⟩,⟨o1,o2⟩,hd,hq=>by
  have hd:x.size+y.size+1<=d+1:=hd;have hq:q.length+(x.size+y.size+1)<=10:=hq;have sx:=size_pos x;have sy:=size_pos y;have hq':decide ((q.length:Int)>9)=false:=au6 (by omega);have wl:∀t:QT,0<(aH t).length:=λt=>by
   cases t with
   |leaf n=>exact awi _
   |neg t=>exact awi _
   |two op a b=>exact awi _
  have l1:=wl x;have l2:=wl y;have e1:=Uy x d (ls (aH y)++rest) q w1 o1 (by omega) (by omega);have e2:=Uy y d rest (q++post x q.length) w2 o2 (by omega) (by rw[auN,eG];omega);show rs (d+1) (ls (fU op::(aH x++aH y))++rest) q=_;rw[aiH,rs,eP,zM (by omega),hq'];rw[show List.drop 1 ((fU op,())::(ls (aH x)++(ls (aH y)++rest)))=ls (aH x)++(ls (aH y)++rest)from rfl,e1];have ed:List.drop (1+((aH x).length:Int)).toNat ((fU op,())::(ls (aH x)++(ls (aH y)++rest)))=ls (aH y)++rest:=by rw[show(1+((aH x).length:Int)).toNat=(aH x).length+1 by omega,List.drop_succ_cons];exact List.drop_left' (by unfold ls;rw[au7])
  dsimp only;rw[ed,e2];rw[show(((aH x).length:Int)==0)=false from auP.2 (by omega),show(((aH y).length:Int)==0)=false from auP.2 (by omega)];have fin:((q++post x q.length)++post y (q++post x q.length).length++[(op,((q++post x q.length).length:Int)-1,((q++post x q.length++post y (q++post x q.length).length).length:Int)-1,[],0,0,[],())],1+((aH x).length:Int)+((aH y).length:Int))=(q++post (.two op x y) q.length,((aH (.two op x y)).length:Int)):=by show _=(q++(post x q.length++(post y (q.length+x.size)++[_])),((fU op::(aH x++aH y)).length:Int));rw[auN,auN,eG,eG,auN,eG,au4,au4,auQ,auN];rw[show(1+((aH x).length:Int)+((aH y).length:Int))=(((aH x).length+(aH y).length+1:Nat):Int) by omega]
  rcases c with rfl|rfl<;>exact fin
end Sp
namespace Sp
open Go
theorem ajx{op:Int}{r:LS}(c:op=2\/op=8\/op=9)(ht:dO (op,0,0,wordAt r 0,0,0,[],()) 0=true):
 (fU op,())::r=ls (jA (op,0,0,wordAt r 0,0,0,[],()))++r.drop 1:=by
 have hn:wordAt r 0≠[]:=by
  rcases yc ht (by dsimp only;omega)with x|⟨_,s,x,_,hs⟩|⟨op',s,v,x,hop,_⟩
  .have:=congrArg (·.1) x;dsimp only at this;omega
  .have:=congrArg (λn:ak=>n.2.2.2.1) x;dsimp only at this;rw[this];exact hs
  .have:=congrArg (·.1) x;dsimp only at this;omega
 rw[Dq c];exact congrArg _ (Bz hn)
theorem ajy{op:Int}{r:LS}(c:op=3\/op=4)(ht:dO (op,0,0,wordAt r 0,(aV (wordAt (r.drop 1) 0)).1) 0=true):
 (fU op,())::r=ls (jA (op,0,0,wordAt r 0,(aV (wordAt (r.drop 1) 0)).1))++(r.drop 1).drop 1:=by
 have hn:wordAt r 0≠[]/\(aV (wordAt (r.drop 1) 0)).2=true/\bn (aV (wordAt (r.drop 1) 0)).1=wordAt (r.drop 1) 0:=by
  rcases yc ht (by dsimp only;omega)with x|⟨op',s,x,hop,hs⟩|⟨op',s,v,x,hop,hs,hv,h1⟩
  .have:=congrArg (·.1) x;dsimp only at this;omega
  .have:=congrArg (·.1) x;dsimp only at this;omega
  .have x1:=congrArg (λn:ak=>n.2.2.2.1) x;have x2:=congrArg (λn:ak=>n.2.2.2.2) x;dsimp only at x1 x2;refine⟨by rw[x1];exact hs,ZH (by rw[x2];exact hv) (by rw[x2];exact h1)⟩
 have hw2:wordAt (r.drop 1) 0≠[]:=λe0=>by
  rw[e0]at hn;have:(aV []).2=false:=by unfold aV;rw[ZG];rfl
  rw[this]at hn;cases hn.2.1
 have e3:r=(wordAt r 0,())::(wordAt (r.drop 1) 0,())::(r.drop 1).drop 1:=by rw[← Bz hw2];exact Bz hn.1
 rw[FD c,hn.2.2];exact congrArg _ e3
theorem Yl:∀(d:Nat)(w:LS)(q:List ak),(rs d w q).2≠0->∃t,x9 t/\(rs d w q).1=q++post t q.length/\0<(rs d w q).2/\(zL t->∃rest,w=ls (aH t)++rest/\(rs d w q).2=((aH t).length:Int))
 |0,w,q,h=>(h rfl).elim
 |d+1,w,q,h=>by
  by_cases h0:dF (wordAt w 0)=0
  .rw[rs,h0]at h;exact(h rfl).elim
  obtain⟨r,e,e2⟩:=Yh h0;rcases AL (wordAt w 0)with c|⟨c,_⟩
  .exact(h0 c).elim
  have w1:wordAt w 1=wordAt r 0:=by rw[e];exact KY _ _
  have w2:wordAt w 2=wordAt (r.drop 1) 0:=by rw[e];exact adl _ _
  have wd:∀n:Nat,w.drop (1+(n:Int)).toNat=r.drop n:=λn=>by rw[e,show(1+(n:Int)).toNat=n+1 by omega,List.drop_succ_cons]
  rw[rs]at h ⊢;rw[e2,w1,w2]at h ⊢;generalize dF (wordAt w 0)=op at h c e h0 ⊢;cases hq:decide ((q.length:Int)>9)with
  |true=>rw[hq,Bool.or_true]at h;exact(h rfl).elim
  |false=>
  rw[hq,show(op==0)=false from auP.2 h0]at h;rw[show(op==0)=false from auP.2 h0];have Ux:op=2\/op=8\/op=9->∃t,x9 t/\q++[(op,0,0,wordAt r 0,0,0,[],())]=q++post t q.length/\(0:Int)<2/\(zL t->∃rest,w=ls (aH t)++rest/\(2:Int)=((aH t).length:Int)):=λc=>
   ⟨.leaf (op,0,0,wordAt r 0,0,0,[],()),(show op=1\/op=2\/op=3\/op=4\/op=8\/op=9 by omega),rfl,by decide,λht=>⟨r.drop 1,e.trans (ajx c ht),by show _=((jA _).length:Int);rw[Dq c];rfl⟩⟩
  have adk:op=3\/op=4->∃t,x9 t/\q++[(op,0,0,wordAt r 0,(aV (wordAt (r.drop 1) 0)).1)]=q++post t q.length/\(0:Int)<3/\(zL t->∃rest,w=ls (aH t)++rest/\(3:Int)=((aH t).length:Int)):=λc=>
   ⟨.leaf (op,0,0,wordAt r 0,(aV (wordAt (r.drop 1) 0)).1),(show op=1\/op=2\/op=3\/op=4\/op=8\/op=9 by omega),rfl,by decide,λht=>⟨(r.drop 1).drop 1,e.trans (ajy c ht),by show _=((jA _).length:Int);rw[FD c];rfl⟩⟩
  have aiG:(op=6\/op=7)->(rs d r q).2≠0->(rs d (w.drop (1+(rs d r q).2).toNat) (rs d r q).1).2≠0->
   ∃t,x9 t/\(rs d (w.drop (1+(rs d r q).2).toNat) (rs d r q).1).1++[(op,((rs d r q).1.length:Int)-1,((rs d (w.drop (1+(rs d r q).2).toNat) (rs d r q).1).1.length:Int)-1,[],0,0,[],())]=q++post t q.length/\
    0<1+(rs d r q).2+(rs d (w.drop (1+(rs d r q).2).toNat) (rs d r q).1).2/\(zL t->∃rest,w=ls (aH t)++rest/\1+(rs d r q).2+(rs d (w.drop (1+(rs d r q).2).toNat) (rs d r q).1).2=((aH t).length:Int)):=λc g1 g2=>by
   obtain⟨x,x1,x2,x3,x4⟩:=Yl d r q g1;obtain⟨y,y1,y2,y3,y4⟩:=Yl d _ _ g2;have lx:(rs d r q).1.length=q.length+x.size:=by rw[x2,auN,eG]
   have ly:(rs d (w.drop (1+(rs d r q).2).toNat) (rs d r q).1).1.length=q.length+x.size+y.size:=by rw[y2,auN,eG,lx]
   refine⟨.two op x y,⟨c,x1,y1⟩,?_,by omega,λht=>?_⟩
   .rw[ly,lx,y2,lx,x2];show _=q++(post x q.length++(post y (q.length+x.size)++[_]));rw[au4,au4]
   .obtain⟨t1,t2⟩:zL x/\zL y:=ht;obtain⟨r1,q1,q2⟩:=x4 t1;obtain⟨r2,q3,q4⟩:=y4 t2;have e4:w.drop (1+(rs d r q).2).toNat=r1:=by rw[q2,wd,q1];exact List.drop_left' (by unfold ls;rw[au7])
    refine⟨r2,?_,?_⟩
    .rw[e];show _=ls (fU op::(aH x++aH y))++_;rw[aiH];refine congrArg _ (q1.trans (congrArg _ ?_));rw[← q3];exact e4.symm
    .rw[q4,q2];show _=(((fU op::(aH x++aH y)).length:Nat):Int);rw[auQ,auN];omega
  rcases c with rfl|rfl|rfl|rfl|rfl|rfl|rfl|rfl|rfl
  .refine⟨.leaf (1,0,0,[],0,0,[],()),.inl rfl,rfl,(by show(0:Int)<1;decide),λ_=>⟨r,e,rfl⟩⟩
  .exact Ux (.inl rfl)
  .exact adk (.inl rfl)
  .exact adk (.inr rfl)
  .have h:(bif (rs d r q).2==0 then((rs d r q).1,0)else(_,1+(rs d r q).2):List ak×Int).2≠0:=h;cases g:(rs d r q).2==0 with
   |true=>rw[g]at h;exact(h rfl).elim
   |false=>
    obtain⟨x,x1,x2,x3,x4⟩:=Yl d r q (auP.1 g);have lx:(rs d r q).1.length=q.length+x.size:=by rw[x2,auN,eG]
    refine⟨.neg x,x1,?_,?_,λht=>?_⟩
    .show(rs d r q).1++[(5,((rs d r q).1.length:Int)-1,0,[],0,0,[],())]=q++(post x q.length++[_]);rw[lx,x2,au4]
    .show 0<1+(rs d r q).2;omega
    .obtain⟨r1,q1,q2⟩:=x4 ht;refine⟨r1,e.trans (congrArg _ q1),?_⟩;show 1+(rs d r q).2=((fU 5::aH x).length:Int);rw[q2,auQ];omega
  .have h:(bif (rs d r q).2==0 then((rs d r q).1,0)else bif (rs d (w.drop (1+(rs d r q).2).toNat) (rs d r q).1).2==0 then(_,0)else(_,_):List ak×Int).2≠0:=h;cases g:(rs d r q).2==0 with
   |true=>rw[g]at h;exact(h rfl).elim
   |false=>
    rw[g]at h;cases g2:(rs d (w.drop (1+(rs d r q).2).toNat) (rs d r q).1).2==0 with
    |true=>rw[g2]at h;exact(h rfl).elim
    |false=>exact aiG (.inl rfl) (auP.1 g) (auP.1 g2)
  .have h:(bif (rs d r q).2==0 then((rs d r q).1,0)else bif (rs d (w.drop (1+(rs d r q).2).toNat) (rs d r q).1).2==0 then(_,0)else(_,_):List ak×Int).2≠0:=h;cases g:(rs d r q).2==0 with
   |true=>rw[g]at h;exact(h rfl).elim
   |false=>
    rw[g]at h;cases g2:(rs d (w.drop (1+(rs d r q).2).toNat) (rs d r q).1).2==0 with
    |true=>rw[g2]at h;exact(h rfl).elim
    |false=>exact aiG (.inr rfl) (auP.1 g) (auP.1 g2)
  .exact Ux (.inr (.inl rfl))
  .exact Ux (.inr (.inr rfl))
end Sp
namespace Sp
open Go
def bZ:Nat->List ak->Int->List Bytes
 |0,_,_=>[]
 |k+1,q,i=>
  bif (nodeAt q i.toNat).1==5 then fU (nodeAt q i.toNat).1::bZ k q (nodeAt q i.toNat).2.1
  else bif (nodeAt q i.toNat).1==6||(nodeAt q i.toNat).1==7 then fU (nodeAt q i.toNat).1::(bZ k q (nodeAt q i.toNat).2.1++bZ k q (nodeAt q i.toNat).2.2.1)
  else jA (nodeAt q i.toNat)
def textOf(q:List ak):Bytes:=bif ax q then Lib.join (bZ 9 q ((q.length:Int)-1)) [32]else[]
theorem Dt(l r:List ak)(n:ak):nodeAt (l++(n::r)) l.length=n:=by unfold nodeAt;rw[auS,avq (auT _),aw9];rfl
theorem OQ:∀(t:QT)(k:Nat)(l r:List ak),x9 t->t.size<=k->bZ k (l++(post t l.length++r)) (((l.length+t.size:Nat):Int)-1)=aH t
 |t,0,_,_,_,h=>absurd (size_pos t) (by omega)
 |.leaf n,k+1,l,r,hw,_=>by
  have hw:n.1=1\/n.1=2\/n.1=3\/n.1=4\/n.1=8\/n.1=9:=hw;show bZ (k+1) (l++(n::r)) (((l.length+1:Nat):Int)-1)=jA n;rw[bZ,show((((l.length+1:Nat):Int)-1).toNat)=l.length by omega,Dt];rw[show(n.1==5)=false from auP.2 (by omega),show(n.1==6)=false from auP.2 (by omega),show(n.1==7)=false from auP.2 (by omega)];rfl
 |.neg t,k+1,l,r,hw,hk=>by
  have hk:t.size+1<=k+1:=hk;have ih:=OQ t k l ((5,((l.length+t.size:Nat):Int)-1,0,[],0,0,[],())::r) hw (by omega);have e:l++(post (.neg t) l.length++r)=l++(post t l.length++(((5,((l.length+t.size:Nat):Int)-1,0,[],0,0,[],()):ak)::r)):=by show l++((post t l.length++[_])++r)=_;rw[au4];rfl
  have en:nodeAt (l++(post (.neg t) l.length++r)) (l.length+t.size)=(5,((l.length+t.size:Nat):Int)-1,0,[],0,0,[],()):=by rw[e,← au4,show l.length+t.size=(l++post t l.length).length by rw[auN,eG]];exact Dt _ _ _
  rw[bZ,show((((l.length+(QT.neg t).size:Nat):Int)-1).toNat)=l.length+t.size by show(((l.length+(t.size+1):Nat):Int)-1).toNat=_;omega,en,e];show fU 5::bZ k _ _=fU 5::aH t;rw[ih]
 |.two op x y,k+1,l,r,⟨c,w1,w2⟩,hk=>by
  have hk:x.size+y.size+1<=k+1:=hk;generalize hn:((op,((l.length+x.size:Nat):Int)-1,((l.length+x.size+y.size:Nat):Int)-1,[],0,0,[],()):ak)=N;have e:l++(post (.two op x y) l.length++r)=l++(post x l.length++(post y (l.length+x.size)++(N::r))):=by show l++((post x l.length++(post y (l.length+x.size)++[_]))++r)=_;rw[hn,au4,au4];rfl
  have i1:=OQ x k l (post y (l.length+x.size)++(N::r)) w1 (by omega);have i2:=OQ y k (l++post x l.length) (N::r) w2 (by omega);rw[auN,eG,au4]at i2;have en:nodeAt (l++(post (.two op x y) l.length++r)) (l.length+x.size+y.size)=N:=by rw[e,← au4,← au4,show l.length+x.size+y.size=((l++post x l.length)++post y (l.length+x.size)).length by rw[auN,auN,eG,eG]];exact Dt _ _ _
  rw[bZ,show((((l.length+(QT.two op x y).size:Nat):Int)-1).toNat)=l.length+x.size+y.size by show(((l.length+(x.size+y.size+1):Nat):Int)-1).toNat=_;omega,en,e];subst hn;dsimp only;rw[i1,i2];rcases c with rfl|rfl<;>rfl
theorem IC{n:ak}(a:Int)(hw:n.1=1\/n.1=2\/n.1=3\/n.1=4\/n.1=8\/n.1=9):dO n a=dO n 0:=by obtain⟨op,l,r,s,v⟩:=n;dsimp only at hw;rcases hw with rfl|rfl|rfl|rfl|rfl|rfl<;>rfl
theorem adn:∀(t:QT)(b:Nat),x9 t->(∀n∈post t b,∃a,dO n a=true)->zL t
 |.leaf n,_,hw,h=>by
  obtain⟨a,ha⟩:=h n au0;show dO n 0=true;rw[← IC a hw];exact ha
 |.neg t,b,hw,h=>adn t b hw λn hn=>h n (avC _ hn)
 |.two op x y,b,⟨_,w1,w2⟩,h=>⟨adn x b w1 λn hn=>h n (avC _ hn),adn y _ w2 λn hn=>h n (avV _ (avC _ hn))⟩
theorem Lm{t:QT}(hw:x9 t)(h:ax (post t 0)=true):zL t/\t.size<=9:=by refine⟨adn t 0 hw λn hn=>?_,by have:=(gy h).2;rwa [eG]at this⟩;obtain⟨i,hi,e⟩:=av9 hn;refine⟨i,?_⟩;have:=(jK h hi).1;unfold nodeAt at this;rw[auS,auX hi,e]at this;exact this
theorem aiI:∀t:QT,∃x r,aH t=x::r/\x≠[]
 |.leaf n=>⟨_,_,rfl,alG _⟩
 |.neg t=>⟨_,_,rfl,alG _⟩
 |.two op x y=>⟨_,_,rfl,alG _⟩
where alG (op:Int):fU op≠[]:=by unfold fU;cases op==1<;>cases op==2<;>cases op==3<;>cases op==4<;>cases op==5<;>cases op==6<;>cases op==7<;>cases op==8<;>cases op==9<;>intro h<;>cases h
theorem afI{t:QT}(hw:x9 t)(h:ax (post t 0)=true):textOf (post t 0)=Lib.join (aH t) [32]/\textOf (post t 0)≠[]:=by
 obtain⟨_,hs⟩:=Lm hw h;have e:textOf (post t 0)=Lib.join (aH t) [32]:=by unfold textOf;rw[h,eG];have:=OQ t 9 [] [] hw hs;rw[avi,avJ,auW,avm]at this;show Lib.join (bZ 9 (post t 0) ((t.size:Int)-1)) [32]=_;rw[this]
 refine⟨e,?_⟩;obtain⟨x,r,ew,hx⟩:=aiI t;rw[e,ew,Lib.join_cons];intro h0;exact hx (avF.1 h0).1
def xR(w:LS):Bool×LS×List ak:=rd (w.length+1) w []
def gq(s:Bytes):Bool:=gZ s&&((xR (wordsOf s)).1&&(!decide (((xR (wordsOf s)).2.1.length:Int)>0)&&ax (xR (wordsOf s)).2.2))
def fM(s:Bytes):List ak:=bif gq s then(xR (wordsOf s)).2.2 else[]
def Yi(s:Bytes):Bool:=gZ s&&((rs 10 (wordsOf s) []).2==((wordsOf s).length:Int)&&(!(textOf (rs 10 (wordsOf s) []).1==[])&&textOf (rs 10 (wordsOf s) []).1==gm (wordsOf s)))
theorem aiq(w:List Bytes):(ls w).map (·.1)=w:=by unfold ls;rw[awh];exact List.map_id' w
theorem Uz(s:Bytes):gq s=true↔gZ s=true/\∃t,x9 t/\ax (post t 0)=true/\wordsOf s=ls (aH t):=by
 unfold gq;rw[auO,auO,auO,awt,avt];refine awu λ_=>⟨λ⟨h1,h2,h3⟩=>?_,λ⟨t,hw,hq,e⟩=>?_⟩
 .obtain⟨t,hw,e,h⟩:=Yk _ _ _ h1;have e:(xR (wordsOf s)).2.2=post t 0:=e;rw[e]at h3;have hr:(xR (wordsOf s)).2.1=[]:=avH.1 (by omega);have h:zL t->wordsOf s=ls (aH t)++(xR (wordsOf s)).2.1:=h;exact⟨t,hw,h3,by rw[h (Lm hw h3).1,hr,avi]⟩
 .have e1:=Nl t ((wordsOf s).length+1) [] [] hw (Lm hw hq).1 (by rw[avi,← e];exact awx _);rw[avi,← e]at e1;have e1:xR (wordsOf s)=(true,[],post t 0):=e1;rw[e1];exact⟨rfl,(by show ¬((0:Nat):Int)>0;decide),hq⟩
theorem aiJ{s:Bytes}{t:QT}(hw:x9 t)(hq:ax (post t 0)=true)(e:wordsOf s=ls (aH t)):xR (wordsOf s)=(true,[],post t 0):=by have e1:=Nl t ((wordsOf s).length+1) [] [] hw (Lm hw hq).1 (by rw[avi,← e];exact awx _);rw[avi,← e]at e1;exact e1
theorem ao4{s:Bytes}{t:QT}(hw:x9 t)(hq:ax (post t 0)=true)(e:wordsOf s=ls (aH t)):rs 10 (wordsOf s) []=(post t 0,((wordsOf s).length:Int)):=by obtain⟨ho,hs⟩:=Lm hw hq;have e1:=Uy t 10 [] [] hw ho (by omega) (by rw[auW];omega);rw[avi,← e]at e1;rw[e1,e];unfold ls;rw[au7];rfl
theorem ac3(s:Bytes):Yi s=gq s:=by
 rw[avp,Uz];unfold Yi;rw[auO,auO,auO,awt,avj,avj,auP];refine awu λ_=>⟨λ⟨h1,h2,h3⟩=>?_,λ⟨t,hw,hq,e⟩=>?_⟩
 .have hq:ax (rs 10 (wordsOf s) []).1=true:=by
   cases h:ax (rs 10 (wordsOf s) []).1 with
   |true=>rfl
   |false=>unfold textOf at h2;rw[h]at h2;exact(h2 rfl).elim
  by_cases h0:(rs 10 (wordsOf s) []).2=0
  .have:wordsOf s=[]:=avH.1 (by omega);rw[this]at hq;exact absurd hq (by decide)
  obtain⟨t,hw,e,hk,h⟩:=Yl _ _ _ h0;have e:(rs 10 (wordsOf s) []).1=post t 0:=e;rw[e]at hq;obtain⟨rest,q1,q2⟩:=h (Lm hw hq).1;refine⟨t,hw,hq,?_⟩;rw[h1]at q2;have hl:=congrArg List.length q1;rw[auN]at hl;have h3:(ls (aH t)).length=(aH t).length:=by unfold ls;rw[au7]
  have hr:rest=[]:=avH.1 (by omega);rw[q1,hr,avi]
 .obtain⟨q1,q2⟩:=afI hw hq;rw[ao4 hw hq e];refine⟨rfl,q2,q1.trans ?_⟩;unfold gm;rw[e,aiq]
theorem TT{s:Bytes}(h:gq s=true):(rs 10 (wordsOf s) []).1=(xR (wordsOf s)).2.2/\fM s=(xR (wordsOf s)).2.2/\ax (fM s)=true:=by
 obtain⟨_,t,hw,hq,e⟩:=(Uz s).1 h;have e2:fM s=(xR (wordsOf s)).2.2:=by unfold fM;rw[h];rfl
 rw[ao4 hw hq e,e2,aiJ hw hq e];exact⟨rfl,rfl,hq⟩
end Sp
namespace Sp
open Go
def aor:Bytes:=[99,114,101,97,116,101]
def aos:Bytes:=[117,112,100,97,116,101]
def aot:Bytes:=[100,101,108,101,116,101]
def aou:Bytes:=[100,101,102,105,110,101]
def alH:Bytes:=[117,110,100,101,102,105,110,101]
def Rj:Bytes->Bytes->LS
 |cur,[]=>[(cur,())]
 |cur,b::l=>bif b==10 then(cur,())::Rj [] l else Rj (cur++[b]) l
end Sp
namespace Sp
open Go
def fine(x:Bytes):Prop:=Uw x/\x.all l7=true
theorem Jk{n:Int}(h:fZ n=true):fine (Lib.itoa n):=by refine⟨adi h,?_⟩;rw[au9];intro b hb;have:=(kF h).2.2.1 b hb;exact AB.2 (by omega)
theorem akk:∀r:List Bytes,(∀x∈r,x.all l7=true)->(Lib.joinTail [32] r).all l7=true
 |[],_=>rfl
 |x::r,h=>by
  have e:Lib.joinTail [32] (x::r)=[32]++(x++Lib.joinTail [32] r):=by simp[Lib.joinTail]
  rw[e,axn,axn,h x au0,akk r λy hy=>h y (auZ _ hy)];decide
theorem akl:∀ws:List Bytes,(∀x∈ws,x.all l7=true)->(Lib.join ws [32]).all l7=true
 |[],_=>rfl
 |x::r,h=>by rw[Lib.join_cons,axn,h x au0,akk r λy hy=>h y (auZ _ hy)];rfl
theorem ado{ws:List Bytes}(h:∀x∈ws,fine x)(hl:(Lib.join ws [32]).length<=600)(hc:ws.length<=24):gZ (Lib.join ws [32])=true/\wordsOf (Lib.join ws [32])=ws.map (·,()):=by have hs:∀x∈ws,Uw x:=λx hx=>(h x hx).1;refine⟨qZ.2 ⟨hl,akl ws λx hx=>(h x hx).2,by rw[ZE ws hs];exact hc⟩,aiC ws hs⟩
theorem abf{n:Int}(h:fZ n=true):(Lib.itoa n).length<=10:=(kF h).2.2.2.2
end Sp
namespace Sp
open Go
theorem akm{l:List bD}{i:Nat}(hi:i<l.length):dm l i∈l:=by unfold dm;rw[auS,auX hi];exact awg hi
theorem apQ{l:List bD}{y:bD}(hy:y∈l):∃i,i<l.length/\dm l i=y:=by obtain⟨i,hi,e⟩:=av9 hy;exact⟨i,hi,by unfold dm;rw[auS,auX hi];exact e⟩
theorem KZ{d:List bD}:ny d=true↔(∀x∈d,aT x.1=true/\ax x.2.1=true)/\(d.Pairwise λx y=>Op.bytesLess x.1 y.1=true)/\d.length<=5:=by
 have one:∀i,kz d i=true↔(aT (dm d i).1=true/\ax (dm d i).2.1=true)/\(0<i->Op.bytesLess (dm d (i-1)).1 (dm d i).1=true):=λi=>by
  unfold kz;rw[auO,auO];refine awu λ_=>?_;by_cases h0:0<i
  .rw[au2 h0];simp[h0]
  .rw[au6 h0];simp[h0]
 unfold ny;rw[auO,show(jd d.length (kz d)=true)↔∀i,i<d.length->kz d i=true from by unfold jd;rw[au9];exact⟨λh i hi=>h i (avD.2 hi),λh i hi=>h i (avD.1 hi)⟩,au1];constructor
 .rintro⟨h,hl⟩;refine⟨λx hx=>?_,?_,by omega⟩
  .obtain⟨i,hi,rfl⟩:=apQ hx;exact((one i).1 (h i hi)).1
  .exact abe (R:=λx y:bD=>Op.bytesLess x.1 y.1=true) (λa b c h1 h2=>Us _ _ _ h1 h2) ([],[],()) d λi hi=>((one (i+1)).1 (h (i+1) hi)).2 (by omega)
 .rintro⟨h1,h2,hl⟩;refine⟨λi hi=>(one i).2 ⟨h1 _ (akm hi),λh0=>?_⟩,by omega⟩;have e:∀k(hk:k<d.length),dm d k=d[k]:=λk hk=>by unfold dm;rw[auS,auX hk];rfl
  rw[e i hi,e (i-1) (by omega)];exact awX.1 h2 (i-1) i (by omega) hi (by omega)
def GN(x:Bq):aS:=(x.2.1,x.2.2.1,x.2.2.2.1,x.2.2.2.2.1,x.2.2.2.2.2.1,())
def aeS(x:Bq):Int:=x.2.2.2.2.2.2.1
def IE(x:Bq):bD:=(x.2.2.2.2.2.2.2.1,x.2.2.2.2.2.2.2.2.1,())
end Sp
namespace Sp
open Go
def Jl(a:aW):Bool:=dB a.1&&(bF a.2.1 a.2.2.1 a.2.2.2.1&&!(a.2.1==0))
def C9(f:aS):Bool:=f.2.2.2.2.1.all Jl&&(fZ f.1&&(fZ f.2.1&&fZ f.2.2.2.1))
def dV:List aW->List Bytes
 |[]=>[]
 |a::r=>a.1::bn a.2::dV r
def jy(f:aS):List Bytes:=Lib.itoa f.2.1::(bif f.2.2.1 then[115]else[111])::Lib.itoa f.2.2.2.1::dV f.2.2.2.2.1
def noF:aS:=(0,0,false,0,[],())
def ana(q:List ak):Bool:=ax q&&decide (fM (textOf q)=q)
def alI(x:Bq):Bool:=(IE x).1==[]&&(IE x).2.1.isEmpty
def aov(x:Bq):List Bytes:=
 bif x.1==1&&(C9 (GN x)&&((GN x).1==0&&(aeS x==0&&alI x)))then aor::jy (GN x)
 else bif x.1==2&&(C9 (GN x)&&(aeS x==0&&alI x))then aos::Lib.itoa (GN x).1::jy (GN x)
 else bif x.1==3&&(decide (GN x=noF)&&(fZ (aeS x)&&alI x))then[aot,Lib.itoa (aeS x)]
 else bif x.1==4&&(decide (GN x=noF)&&(aeS x==0&&(aT (IE x).1&&ana (IE x).2.1)))then aou::(IE x).1::bZ 9 (IE x).2.1 (((IE x).2.1.length:Int)-1)
 else bif x.1==5&&(decide (GN x=noF)&&(aeS x==0&&(aT (IE x).1&&(IE x).2.1.isEmpty)))then[alH,(IE x).1]
 else[]
def afJ(x:Bq):Bytes:=Lib.join (aov x) [32]
theorem kQ{s:Bytes}(h:dB s=true):aT s=true:=by unfold dB at h;unfold aT;rw[auO,auO,au1,au1]at h ⊢;exact⟨h.1,by omega⟩
theorem uF{s:Bytes}(h:aT s=true):fine s:=by refine⟨ajw h,?_⟩;unfold aT lower at h;rw[auO,auO,au9]at h;rw[au9];intro b hb;have:=h.1.1 b hb;rw[auO,au1,au1]at this;rw[AB];omega
theorem aiK{v:CZ}(h:bF v.1 v.2.1 v.2.2.1=true)(h0:v.1≠0):fine (bn v):=by
 unfold bn;rw[h];rcases alE h h0 with⟨n,rfl,a,b⟩|⟨s,rfl,a⟩
 .exact Jk (by unfold fZ;rw[au2 a,au2 (show n<=1000000000 by omega)];rfl)
 .exact uF a
theorem GR{a:aW}:Jl a=true↔dB a.1=true/\bF a.2.1 a.2.2.1 a.2.2.2.1=true/\a.2.1≠0:=by unfold Jl;rw[auO,auO,awt,auP]
theorem xZ{f:aS}:C9 f=true↔(∀a∈f.2.2.2.2.1,Jl a=true)/\fZ f.1=true/\fZ f.2.1=true/\fZ f.2.2.2.1=true:=by unfold C9;rw[auO,auO,auO,au9]
theorem adp:∀as:List aW,(∀a∈as,Jl a=true)->∀y∈dV as,fine y
 |[],_,y,hy=>by cases hy
 |a::r,h,y,hy=>by
  obtain⟨h1,h2,h3⟩:=GR.1 (h a au0);rcases au3.1 hy with rfl|hy
  .exact uF (kQ h1)
  rcases au3.1 hy with rfl|hy
  .exact aiK h2 h3
  .exact adp r (λb hb=>h b (auZ _ hb)) y hy
theorem apR(b:Bool):fine (bif b then[115]else[111]):=by cases b<;>exact⟨⟨by decide,by decide⟩,by decide⟩
theorem anb{f:aS}(h:C9 f=true):∀y∈jy f,fine y:=by
 obtain⟨h1,h2,h3,h4⟩:=xZ.1 h;intro y hy;rcases au3.1 hy with rfl|hy
 .exact Jk h3
 rcases au3.1 hy with rfl|hy
 .exact apR _
 rcases au3.1 hy with rfl|hy
 .exact Jk h4
 .exact adp _ h1 y hy
theorem anc{n:ak}(h:dO n 0=true)(hw:n.1=1\/n.1=2\/n.1=3\/n.1=4\/n.1=8\/n.1=9):n.1=1\/fine n.2.2.2.1:=by
 obtain⟨op,l,r,s,k,m,t,⟨⟩⟩:=n;dsimp only at hw ⊢;rcases hw with rfl|rfl|rfl|rfl|rfl|rfl
 .exact .inl rfl
 .have h:((l==0&&r==0)&&(k==0&&(m==0&&t==[]))&&dB s)=true:=h;rw[auO]at h;exact .inr (uF (kQ h.2))
 .have h:((l==0&&r==0)&&dB s&&bF k m t&&!(k==0))=true:=h;rw[auO,auO,auO]at h;exact .inr (uF (kQ h.1.1.2))
 .have h:((l==0&&r==0)&&dB s&&bF k m t&&k==1)=true:=h;rw[auO,auO,auO]at h;exact .inr (uF (kQ h.1.1.2))
 .have h:((l==0&&r==0)&&(k==0&&(m==0&&t==[]))&&aT s)=true:=h;rw[auO]at h;exact .inr (uF h.2)
 .have h:((l==0&&r==0)&&(k==0&&(m==0&&t==[]))&&aT s)=true:=h;rw[auO]at h;exact .inr (uF h.2)
theorem Np(op:Int):fine (fU op):=by unfold fU;cases op==1<;>cases op==2<;>cases op==3<;>cases op==4<;>cases op==5<;>cases op==6<;>cases op==7<;>cases op==8<;>cases op==9<;>exact⟨⟨by decide,by decide⟩,by decide⟩
theorem Ej:∀t:QT,x9 t->zL t->∀y∈aH t,fine y
 |.leaf n,hw,ho,y,hy=>by
  have hg:=anc ho hw;have hy:y∈jA n:=hy;rcases yc ho hw with rfl|⟨op,s,rfl,c,hs⟩|⟨op,s,v,rfl,c,hs,hv,h0⟩
  .have:y=fU 1:=avg.1 hy;rw[this];exact Np 1
  .rw[Dq c]at hy;rcases au3.1 hy with rfl|hy
   .exact Np op
   .rw[avg.1 hy];exact hg.resolve_left (by dsimp only;omega)
  .rw[FD c]at hy;rcases au3.1 hy with rfl|hy
   .exact Np op
   rcases au3.1 hy with rfl|hy
   .exact hg.resolve_left (by dsimp only;omega)
   .rw[avg.1 hy];exact aiK hv h0
 |.neg t,hw,ho,y,hy=>by
  rcases au3.1 (show y∈fU 5::aH t from hy)with rfl|hy
  .exact Np 5
  .exact Ej t hw ho y hy
 |.two op a b,⟨_,w1,w2⟩,⟨o1,o2⟩,y,hy=>by
  rcases au3.1 (show y∈fU op::(aH a++aH b)from hy)with rfl|hy
  .exact Np op
  rcases avf.1 hy with hy|hy
  .exact Ej a w1 o1 y hy
  .exact Ej b w2 o2 y hy
end Sp
namespace Sp
open Go
def iM:LS->List aW
 |[]=>[]
 |[x]=>[(x.1,(aV []).1)]
 |x::y::r=>(x.1,(aV y.1).1)::iM r
def vK:LS->Bool
 |[]=>true
 |[_]=>true
 |_::y::r=>(aV y.1).2&&vK r
def Dp(id:Int)(r:LS):aS:=(id,numAt r 0,wordAt r 1==[115],numAt r 2,iM (r.drop 3),())
def jv(w:LS):aS×Bool:=
 bif decide ((w.length:Int)<4)||!(w.length%2==0)then(noF,false)
 else(Dp (numAt w 0) (w.drop 1),(aY (wordAt w 0)&&(aY (wordAt w 1)&&aY (wordAt w 3)))&&vK (w.drop 4))
theorem La:∀as:List aW,(∀a∈as,Jl a=true)->iM (ls (dV as))=as/\vK (ls (dV as))=true/\(dV as).length=2*as.length
 |[],_=>⟨rfl,rfl,rfl⟩
 |a::r,h=>by
  obtain⟨h1,h2,h3⟩:=GR.1 (h a au0);obtain⟨i1,i2,i3⟩:=La r λb hb=>h b (auZ _ hb);have e:=PL (v:=a.2) h2 h3;refine⟨?_,?_,?_⟩
  .show(a.1,(aV (bn a.2)).1)::iM (ls (dV r))=_;rw[e,i1]
  .show((aV (bn a.2)).2&&vK (ls (dV r)))=true;rw[e,i2];rfl
  .show(dV r).length+1+1=2*(r.length+1);omega
theorem word2(x:Bytes×Unit)(y:Bytes×Unit)(r:LS):wordAt (x::y::r) 1=y.1:=by rw[KY,eP]
theorem ao6(x y z:Bytes×Unit)(r:LS):wordAt (x::y::z::r) 2=z.1:=by rw[show(2:Int)=1+1 from rfl,Ei _ _ 1 (by decide),word2]
theorem arO(x y z u:Bytes×Unit)(r:LS):wordAt (x::y::z::u::r) 3=u.1:=by rw[show(3:Int)=2+1 from rfl,Ei _ _ 2 (by decide),ao6]
theorem afK{f:aS}(h:C9 f=true)(id:Int):Dp id (ls (jy f))=(id,f.2):=by
 obtain⟨h1,h2,h3,h4⟩:=xZ.1 h;obtain⟨i0,o,s,l,as,⟨⟩⟩:=f;have e0:numAt (ls (jy (i0,o,s,l,as,()))) 0=o:=by show parseNum (wordAt ((Lib.itoa o,())::_) 0)=o;rw[eP];exact(rE h3).2
 have e1:(wordAt (ls (jy (i0,o,s,l,as,()))) 1==[115])=s:=by show(wordAt ((Lib.itoa o,())::((bif s then[115]else[111]),())::_) 1==[115])=s;rw[word2];cases s<;>rfl
 have e2:numAt (ls (jy (i0,o,s,l,as,()))) 2=l:=by show parseNum (wordAt ((Lib.itoa o,())::((bif s then[115]else[111]),())::(Lib.itoa l,())::_) 2)=l;rw[ao6];exact(rE h4).2
 have e3:iM ((ls (jy (i0,o,s,l,as,()))).drop 3)=as:=(La as h1).1;unfold Dp;rw[e0,e1,e2,e3]
theorem alJ{f:aS}(h:C9 f=true):jv ((Lib.itoa f.1,())::ls (jy f))=(f,true):=by
 obtain⟨h1,h2,h3,h4⟩:=xZ.1 h;obtain⟨_,a2,a3⟩:=La _ h1;have hl:((Lib.itoa f.1,())::ls (jy f)).length=4+2*f.2.2.2.2.1.length:=by show((Lib.itoa f.1,())::((Lib.itoa f.2.1,())::((bif f.2.2.1 then[115]else[111]),())::(Lib.itoa f.2.2.2.1,())::ls (dV f.2.2.2.2.1))).length=_;rw[auQ,auQ,auQ,auQ];unfold ls;rw[au7];omega
 have e0:wordAt ((Lib.itoa f.1,())::ls (jy f)) 0=Lib.itoa f.1:=eP _ _;have e1:wordAt ((Lib.itoa f.1,())::ls (jy f)) 1=Lib.itoa f.2.1:=word2 _ _ _;have e3:wordAt ((Lib.itoa f.1,())::ls (jy f)) 3=Lib.itoa f.2.2.2.1:=arO _ _ _ _ _;have ev:vK (((Lib.itoa f.1,())::ls (jy f)).drop 4)=true:=a2;have ef:Dp (numAt ((Lib.itoa f.1,())::ls (jy f)) 0) (((Lib.itoa f.1,())::ls (jy f)).drop 1)=f:=by show Dp (numAt _ 0) (ls (jy f))=f;rw[afK h];unfold numAt;rw[e0,(rE h2).2]
 unfold jv;rw[hl,e0,e1,e3,ev,ef,(rE h2).1,(rE h3).1,(rE h4).1,au6 (by omega),show((4+2*f.2.2.2.2.1.length)%2==0)=true from avj.2 (by omega)];rfl
def passes(x:Bq)(w:LS):Prop:=afJ x≠[]/\afJ x=gm w
end Sp
namespace Sp
open Go
def gW(b:UInt8):Bytes->Bytes->LS
 |cur,[]=>[(cur,())]
 |cur,x::l=>bif x==b then(cur,())::gW b [] l else gW b (cur++[x]) l
def pieces(b:UInt8)(s:Bytes):LS:=gW b [] s
theorem XQ:∀(l cur:Bytes),gW 10 cur l=Rj cur l
 |[],_=>rfl
 |x::l,cur=>by
  show(bif x==10 then(cur,())::gW 10 [] l else gW 10 (cur++[x]) l)=bif x==10 then(cur,())::Rj [] l else Rj (cur++[x]) l
  rw[XQ l [],XQ l (cur++[x])]
theorem PN{b:UInt8}:∀(w cur l:Bytes),(∀x∈w,x≠b)->gW b cur (w++l)=gW b (cur++w) l
 |[],cur,l,_=>by rw[avi];rfl
 |x::w,cur,l,h=>by have hx:(x==b)=false:=auP.2 (h x au0);show(bif x==b then(cur,())::gW b [] (w++l)else gW b (cur++[x]) (w++l))=_;rw[hx];show gW b (cur++[x]) (w++l)=_;rw[PN w (cur++[x]) l λy hy=>h y (auZ _ hy),au4];rfl
theorem alK{b:UInt8}{w:Bytes}(h:∀x∈w,x≠b)(l:Bytes):pieces b (w++b::l)=(w,())::pieces b l:=by unfold pieces;rw[PN w [] (b::l) h,avJ];show(bif b==b then _ else _)=_;rw[avO];rfl
theorem ajz{b:UInt8}{w:Bytes}(h:∀x∈w,x≠b):pieces b w=[(w,())]:=by have:=PN w [] [] h;rw[avi,avJ]at this;exact this
theorem jD(x y:Bytes)(r:List Bytes):Lib.join (x::y::r) [32]=x++32::Lib.join (y::r) [32]:=by rw[Lib.join_cons,Lib.join_cons];show x++([32]++y++Lib.joinTail [32] r)=_;rw[au4];rfl
theorem ZI:∀(ws:List Bytes),ws≠[]->(∀w∈ws,∀x∈w,x≠32)->pieces 32 (Lib.join ws [32])=ls ws
 |[],h,_=>(h rfl).elim
 |[w],_,h=>by
  have e:Lib.join [w] [32]=w:=by rw[Lib.join_cons];exact avi w
  rw[e];exact ajz (h w au0)
 |w::y::r,_,h=>by rw[jD,alK (h w au0),ZI (y::r) (by simp) λv hv=>h v (auZ _ hv)];rfl
theorem XJ(b:UInt8):∀(l cur:Bytes),0<(gW b cur l).length
 |[],_=>Nat.one_pos
 |x::l,cur=>by
  show 0<(bif x==b then(cur,())::gW b [] l else gW b (cur++[x]) l).length;cases x==b with
  |true=>exact awi _
  |false=>exact XJ b l _
def dP:List aW->Bytes
 |[]=>[]
 |a::r=>32::(a.1++32::(bn a.2++dP r))
theorem Ud:∀as:List aW,Lib.joinTail [32] (dV as)=dP as
 |[]=>rfl
 |a::r=>by show[32]++a.1++([32]++bn a.2++Lib.joinTail [32] (dV r))=_;rw[Ud r];show _=32::(a.1++32::(bn a.2++dP r));simp
theorem am0{as:List aW}{n:Nat}(h:n<as.length):dP (as.take (n+1))=dP (as.take n)++32::((as.getD n ([],0,0,[],())).1++32::bn (as.getD n ([],0,0,[],())).2):=by
 induction as generalizing n with
 |nil=>exact absurd h (avR _)
 |cons a r ih=>
  cases n with
  |zero=>
   show 32::(a.1++32::(bn a.2++[]))=[]++32::(a.1++32::bn a.2);rw[avi];rfl
  |succ n=>
   have h:n<r.length:=by rw[auQ]at h;omega
   show 32::(a.1++32::(bn a.2++dP (r.take (n+1))))=(32::(a.1++32::(bn a.2++dP (r.take n))))++_;rw[ih h];show _=32::(a.1++32::(bn a.2++dP (r.take n)))++32::((r.getD n ([],0,0,[],())).1++32::bn (r.getD n ([],0,0,[],())).2);simp
theorem afE(f:aS):Lib.join (jy f) [32]=Lib.itoa f.2.1++32::((bif f.2.2.1 then[115]else[111])++32::(Lib.itoa f.2.2.2.1++dP f.2.2.2.2.1)):=by unfold jy;rw[jD,jD,Lib.join_cons,Ud]
def jX:Bytes:=[102,105,108,101]
def dX(f:aS):Bytes:=Lib.join (jX::Lib.itoa f.1::jy f) [32]
end Sp
namespace Sp
open Go
theorem join_one(x:Bytes):Lib.join [x] [32]=x:=by rw[Lib.join_cons];exact avi x
theorem aiL:∀(a:List Bytes)(y:Bytes)(b:List Bytes),a≠[]->Lib.join (a++y::b) [32]=Lib.join a [32]++32::Lib.join (y::b) [32]
 |[],_,_,h=>(h rfl).elim
 |[x],y,b,_=>by rw[join_one];exact jD x y b
 |x::z::a,y,b,_=>by show Lib.join (x::z::(a++y::b)) [32]=_;rw[jD,jD];have:=aiL (z::a) y b (by simp);rw[show z::(a++y::b)=(z::a)++y::b from rfl,this,au4];rfl
theorem acT(x:Bytes){a:List Bytes}(h:a≠[]):Lib.join [x,Lib.join a [32]] [32]=Lib.join (x::a) [32]:=by
 cases a with
 |nil=>exact(h rfl).elim
 |cons y r=>rw[jD,join_one,jD]
theorem acU(x:Bytes){a b:List Bytes}(h:a≠[])(g:b≠[]):Lib.join [x,Lib.join a [32],Lib.join b [32]] [32]=Lib.join (x::(a++b)) [32]:=by
 cases a with
 |nil=>exact(h rfl).elim
 |cons y r=>
  cases b with
  |nil=>exact(g rfl).elim
  |cons z s=>have:=aiL (y::r) z s (by simp);rw[jD,jD,join_one];show _=Lib.join (x::y::(r++z::s)) [32];rw[jD];show _=x++32::Lib.join ((y::r)++z::s) [32];rw[this]
theorem Lj(k:Nat)(q:List ak)(i:Int):bZ (k+1) q i≠[]:=by
 rw[bZ];cases (nodeAt q i.toNat).1==5 with
 |true=>exact axz _ _
 |false=>
  cases (nodeAt q i.toNat).1==6||(nodeAt q i.toNat).1==7 with
  |true=>exact axz _ _
  |false=>exact axz _ _
theorem aeT{n:ak}{a:Int}(h:dO n a=true)(c:n.1=5):0<=n.2.1/\n.2.1<a:=by obtain⟨op,l,r,s,k,m,t,⟨⟩⟩:=n;have c:op=5:=c;subst c;have h:((decide (0<=l)&&decide (l<=a-1)&&decide (0<a))&&r==0&&(s==[]&&(k==0&&(m==0&&t==[]))))=true:=h;rw[auO,auO,auO,auO,au1,au1]at h;have h1:=h.1.1.1;dsimp only;omega
theorem aeU{n:ak}{a:Int}(h:dO n a=true)(c:n.1=6\/n.1=7):(0<=n.2.1/\n.2.1<a)/\0<=n.2.2.1/\n.2.2.1<a:=by
 obtain⟨op,l,r,s,k,m,t,⟨⟩⟩:=n;have h:((decide (0<=l)&&decide (l<=a-1)&&decide (0<a))&&(decide (0<=r)&&decide (r<=a-1))&&(s==[]&&(k==0&&(m==0&&t==[]))))=true:=by
  rcases c with c|c
  .have c:op=6:=c;subst c;exact h
  .have c:op=7:=c;subst c;exact h
 simp only[auO,au1]at h;have h1:=h.1.1.1;have h2:=h.1.2;dsimp only;omega
theorem CW{q:List ak}(h:ax q=true):∀(k j:Nat)(i:Int),0<=i->i.toNat<q.length->i.toNat<k->i.toNat<j->bZ k q i=bZ j q i
 |0,_,_,_,_,hk,_=>absurd hk (avR _)
 |_+1,0,_,_,_,_,hj=>absurd hj (avR _)
 |k+1,j+1,i,hi,hl,hk,hj=>by
  have hn:=(jK h hl).1;rw[bZ,bZ];cases c5:(nodeAt q i.toNat).1==5 with
  |true=>
   have hc:=aeT hn (avj.1 c5);show _::bZ k q _=_::bZ j q _;rw[CW h k j (nodeAt q i.toNat).2.1 hc.1 (by omega) (by omega) (by omega)]
  |false=>
  cases c6:(nodeAt q i.toNat).1==6||(nodeAt q i.toNat).1==7 with
  |true=>
   rw[avW,avj,avj]at c6;have hc:=aeU hn c6;show _::(bZ k q _++bZ k q _)=_::(bZ j q _++bZ j q _);rw[CW h k j (nodeAt q i.toNat).2.1 hc.1.1 (by omega) (by omega) (by omega),CW h k j (nodeAt q i.toNat).2.2.1 hc.2.1 (by omega) (by omega) (by omega)]
  |false=>rfl
def rW(w:List Bytes):Nat:=(w.map λx=>x.length+1).sum
theorem Jm:∀w:List Bytes,(Lib.join w [32]).length<=rW w
 |[]=>auT _
 |[x]=>by rw[join_one];show x.length<=x.length+1+0;omega
 |x::y::r=>by have:=Jm (y::r);rw[jD,auN,auQ];show _<=x.length+1+rW (y::r);omega
theorem fO(x:Bytes)(r:List Bytes):rW (x::r)=x.length+1+rW r:=by unfold rW;rw[au8,avT]
theorem aiM(a b:List Bytes):rW (a++b)=rW a+rW b:=by unfold rW;rw[avN,awH]
theorem XR(op:Int):(fU op).length<=6:=by unfold fU;cases op==1<;>cases op==2<;>cases op==3<;>cases op==4<;>cases op==5<;>cases op==6<;>cases op==7<;>cases op==8<;>cases op==9<;>decide
theorem akn{v:CZ}(h:bF v.1 v.2.1 v.2.2.1=true)(h0:v.1≠0):(bn v).length<=10:=by
 unfold bn;rw[h];rcases alE h h0 with⟨n,rfl,a,b⟩|⟨s,rfl,a⟩
 .exact abf (by unfold fZ;rw[au2 a,au2 (show n<=1000000000 by omega)];rfl)
 .exact auU (pU a) (by decide)
theorem aiN{n:ak}(h:dO n 0=true)(hw:n.1=1\/n.1=2\/n.1=3\/n.1=4\/n.1=8\/n.1=9):rW (jA n)<=25:=by
 have hg:n.1=1\/n.2.2.2.1.length<=6:=by
  obtain⟨op,l,r,s,k,m,t,⟨⟩⟩:=n;dsimp only at hw ⊢;rcases hw with rfl|rfl|rfl|rfl|rfl|rfl
  .exact .inl rfl
  .have h:((l==0&&r==0)&&(k==0&&(m==0&&t==[]))&&dB s)=true:=h;rw[auO]at h;exact .inr (pU (kQ h.2))
  .have h:((l==0&&r==0)&&dB s&&bF k m t&&!(k==0))=true:=h;rw[auO,auO,auO]at h;exact .inr (pU (kQ h.1.1.2))
  .have h:((l==0&&r==0)&&dB s&&bF k m t&&k==1)=true:=h;rw[auO,auO,auO]at h;exact .inr (pU (kQ h.1.1.2))
  .have h:((l==0&&r==0)&&(k==0&&(m==0&&t==[]))&&aT s)=true:=h;rw[auO]at h;exact .inr (pU h.2)
  .have h:((l==0&&r==0)&&(k==0&&(m==0&&t==[]))&&aT s)=true:=h;rw[auO]at h;exact .inr (pU h.2)
 rcases yc h hw with rfl|⟨op,s,rfl,c,hs⟩|⟨op,s,v,rfl,c,hs,hv,h0⟩
 .decide
 .have hl:s.length<=6:=hg.resolve_left (by dsimp only;omega);have hk:=XR op;rw[Dq c,fO,fO];show _+(_+0)<=25;omega
 .have hl:s.length<=6:=hg.resolve_left (by dsimp only;omega);have hk:=XR op;have hq:=akn hv h0;rw[FD c,fO,fO,fO];show _+(_+(_+0))<=25;omega
theorem Jo{q:List ak}(h:ax q=true):∀(k:Nat)(i:Int),0<=i->i.toNat<q.length->rW (bZ k q i)+7<=24*2 ^ k
 |0,_,_,_=>by show 0+7<=24*1;decide
 |k+1,i,hi,hl=>by
  have hn:=(jK h hl).1;have hk:=XR (nodeAt q i.toNat).1;have hp:1<=2 ^ k:=axq;have e2:2 ^ (k+1)=2*2 ^ k:=by rw[Nat.pow_succ,axp]
  rw[bZ];cases c5:(nodeAt q i.toNat).1==5 with
  |true=>
   have hc:=aeT hn (avj.1 c5);have ih:=Jo h k (nodeAt q i.toNat).2.1 hc.1 (by omega);show rW (_::_)+7<=_;rw[fO];omega
  |false=>
  cases c6:(nodeAt q i.toNat).1==6||(nodeAt q i.toNat).1==7 with
  |true=>
   rw[avW,avj,avj]at c6;have hc:=aeU hn c6;have i1:=Jo h k (nodeAt q i.toNat).2.1 hc.1.1 (by omega);have i2:=Jo h k (nodeAt q i.toNat).2.2.1 hc.2.1 (by omega);show rW (_::(_++_))+7<=_;rw[fO,aiM];omega
  |false=>
   rw[av3,auP,auP]at c6;have c5:=auP.1 c5;have hw:(nodeAt q i.toNat).1=1\/(nodeAt q i.toNat).1=2\/(nodeAt q i.toNat).1=3\/(nodeAt q i.toNat).1=4\/(nodeAt q i.toNat).1=8\/(nodeAt q i.toNat).1=9:=by
    generalize nodeAt q i.toNat=n at hn c5 c6;obtain⟨op,l,r,s,k,m,t,⟨⟩⟩:=n;dsimp only at c5 c6 ⊢;by_cases a1:op=1
    .exact .inl a1
    by_cases a2:op=2
    .exact .inr (.inl a2)
    by_cases a3:op=3
    .exact .inr (.inr (.inl a3))
    by_cases a4:op=4
    .exact .inr (.inr (.inr (.inl a4)))
    by_cases a8:op=8
    .exact .inr (.inr (.inr (.inr (.inl a8))))
    by_cases a9:op=9
    .exact .inr (.inr (.inr (.inr (.inr a9))))
    unfold dO at hn;dsimp only at hn;rw[auP.2 a1,auP.2 a2,auP.2 a3,auP.2 a4,auP.2 c5,auP.2 c6.1,auP.2 c6.2,auP.2 a8,auP.2 a9]at hn;cases hn
   have:=aiN (by rw[← IC _ hw];exact hn) hw;show rW (jA _)+7<=_;omega
theorem Uf(q:List ak):(textOf q).length<=12288:=by
 unfold textOf;cases h:ax q with
 |false=>exact avc _
 |true=>have hl:=gy h;have:=Jo h 9 ((q.length:Int)-1) (by omega) (by omega);exact auU (Jm _) (by show rW (bZ 9 q _)<=12288;omega)
end Sp
namespace Sp
open Go
end Sp
namespace Sp
open Go
theorem Dc:∀t:QT,x9 t->zL t->(aH t).length<=2*t.size+1/\rW (aH t)<=32*t.size
 |.leaf n,hw,ho=>by
  have h:=aiN ho hw;refine⟨?_,show rW (jA n)<=32*1 by omega⟩;show(jA n).length<=2*1+1;unfold jA;cases n.1==2||(n.1==8||n.1==9)with
  |true=>show 2<=3;decide
  |false=>
   cases n.1==3||n.1==4 with
   |true=>show 3<=3;decide
   |false=>show 1<=3;decide
 |.neg t,hw,ho=>by
  obtain⟨h1,h2⟩:=Dc t hw ho;have:=XR 5;refine⟨?_,?_⟩
  .show(aH t).length+1<=2*(t.size+1)+1;omega
  .show rW (fU 5::aH t)<=32*(t.size+1);rw[fO];omega
 |.two op a b,⟨_,w1,w2⟩,⟨o1,o2⟩=>by
  obtain⟨h1,h2⟩:=Dc a w1 o1;obtain⟨h3,h4⟩:=Dc b w2 o2;have:=XR op;refine⟨?_,?_⟩
  .show(aH a++aH b).length+1<=2*(a.size+b.size+1)+1;rw[auN];omega
  .show rW (fU op::(aH a++aH b))<=32*(a.size+b.size+1);rw[fO,aiM];omega
theorem Uc:∀as:List aW,(∀a∈as,Jl a=true)->rW (dV as)<=18*as.length
 |[],_=>auT _
 |a::r,h=>by obtain⟨h1,h2,h3⟩:=GR.1 (h a au0);have i:=Uc r λb hb=>h b (auZ _ hb);have l1:=pU (kQ h1);have l2:=akn (v:=a.2) h2 h3;show rW (a.1::bn a.2::dV r)<=18*(r.length+1);rw[fO,fO];omega
theorem ane{f:aS}(h:C9 f=true):rW (jy f)<=24+18*f.2.2.2.2.1.length/\(jy f).length=3+2*f.2.2.2.2.1.length:=by
 obtain⟨h1,h2,h3,h4⟩:=xZ.1 h;have i:=Uc _ h1;have l1:=abf h3;have l2:=abf h4;have l3:(bif f.2.2.1 then[115]else[111]:Bytes).length=1:=by cases f.2.2.1<;>rfl
 refine⟨?_,?_⟩
 .show rW (Lib.itoa f.2.1::(bif f.2.2.1 then[115]else[111])::Lib.itoa f.2.2.2.1::dV f.2.2.2.2.1)<=_;rw[fO,fO,fO];omega
 .show(dV f.2.2.2.2.1).length+1+1+1=_;rw[(La _ h1).2.2];omega
end Sp
namespace Sp
open Go
end Sp
namespace Sp
open Go
end Sp
namespace Sp
open Go
theorem uK(w:LS)(a i:Int)(ha:0<=a)(hi:0<=i):wordAt (w.drop a.toNat) i=wordAt w (a+i):=by
 by_cases h:a+i<(w.length:Int)
 .rw[qi h,qi (by rw[avl];omega),auS,avs,auS,show a.toNat+i.toNat=(a+i).toNat by omega]
 .rw[qj (show a+i>=(w.length:Int) by omega),qj (by rw[avl];omega)]
theorem OI:∀(d:Nat)(w:LS)(q:List ak),(rs d w q).1.length<=max (10+d) q.length/\0<=(rs d w q).2/\(rs d w q).2<3*2 ^ d
 |0,w,q=>⟨Nat.le_max_right _ _,avI _,by show(0:Int)<_;decide⟩
 |d+1,w,q=>by
  have hp:1<=2 ^ d:=axq;have e2:(3:Int)*2 ^ (d+1)=2*(3*2 ^ d):=by rw[Int.pow_succ];omega
  have e3:(1:Int)<=2 ^ d:=by exact_mod_cast hp
  rw[rs];cases h0:dF (wordAt w 0)==0||decide ((q.length:Int)>9)with
  |true=>exact⟨Nat.le_max_right _ _,avI _,by show(0:Int)<_;omega⟩
  |false=>
  rw[av3,avt]at h0;have hq:q.length<=9:=by omega
  have one:∀(x:ak)(k:Int),0<=k->k<=3->(q++[x],k).1.length<=max (10+(d+1)) q.length/\0<=(q++[x],k).2/\(q++[x],k).2<3*2 ^ (d+1):=λx k h1 h2=>
   ⟨by rw[auN,auQ,auW];omega,h1,by show k<_;omega⟩
  cases dF (wordAt w 0)==2||(dF (wordAt w 0)==8||dF (wordAt w 0)==9)with
  |true=>exact one _ _ (by decide) (by decide)
  |false=>
  cases dF (wordAt w 0)==3||dF (wordAt w 0)==4 with
  |true=>exact one _ _ (by decide) (by decide)
  |false=>
  cases dF (wordAt w 0)==5||(dF (wordAt w 0)==6||dF (wordAt w 0)==7)with
  |false=>exact one _ _ (by decide) (by decide)
  |true=>
  have i1:=OI d (w.drop 1) q;show(bif (rs d (w.drop 1) q).2==0 then _ else _:List ak×Int).1.length<=_/\0<=(bif (rs d (w.drop 1) q).2==0 then _ else _:List ak×Int).2/\(bif (rs d (w.drop 1) q).2==0 then _ else _:List ak×Int).2<_;generalize rs d (w.drop 1) q=x at i1 ⊢;obtain⟨r,k⟩:=x;have i1:r.length<=max (10+d) q.length/\0<=k/\k<3*2 ^ d:=i1;have i2:=OI d (w.drop (1+k).toNat) r;cases k==0 with
  |true=>exact⟨by show r.length<=_;omega,avI _,by show(0:Int)<_;omega⟩
  |false=>
  cases dF (wordAt w 0)==5 with
  |true=>exact⟨by show(r++[_]).length<=_;rw[auN,auQ,auW];omega,by show 0<=1+k;omega,by show 1+k<_;omega⟩
  |false=>
  show(bif (rs d (w.drop (1+k).toNat) r).2==0 then _ else _:List ak×Int).1.length<=_/\0<=(bif (rs d (w.drop (1+k).toNat) r).2==0 then _ else _:List ak×Int).2/\(bif (rs d (w.drop (1+k).toNat) r).2==0 then _ else _:List ak×Int).2<_;generalize rs d (w.drop (1+k).toNat) r=y at i2 ⊢;obtain⟨s,m⟩:=y;have i2:s.length<=max (10+d) r.length/\0<=m/\m<3*2 ^ d:=i2;cases m==0 with
  |true=>exact⟨by show s.length<=_;omega,avI _,by show(0:Int)<_;omega⟩
  |false=>exact⟨by show(s++[_]).length<=_;rw[auN,auQ,auW];omega,by show 0<=1+k+m;omega,by show 1+k+m<_;omega⟩
theorem AP{n:Int}(h:(-9223372036854775808:Int)<=n/\n<=9223372036854775807):(Lib.itoa n).length<=21:=Lib.itoa_length_le n h.1 h.2
theorem ajA{v:CZ}:(bn v).length<=21+v.2.2.1.length:=by
 unfold bn;cases h:bF v.1 v.2.1 v.2.2.1 with
 |false=>show 1<=_;omega
 |true=>
  cases h1:v.1==1 with
  |true=>
   have h:=(alr (n:=v.2.1) (s:=v.2.2.1) (by rw[← avj.1 h1];exact h));exact auU (AP (by omega)) (Nat.le_add_right _ _)
  |false=>
   cases v.1==2 with
   |true=>show v.2.2.1.length<=_;omega
   |false=>show 1<=_;omega
theorem aeM{as:List aW}{n:Nat}:(dP (as.take n)).length<=(dP as).length:=by
 induction as generalizing n with
 |nil=>rw[List.take_nil];exact auT _
 |cons a r ih=>
  cases n with
  |zero=>exact avc _
  |succ n=>show(32::(a.1++32::(bn a.2++dP (r.take n)))).length<=(32::(a.1++32::(bn a.2++dP r))).length;have:=@ih n;simp only[auQ,auN];omega
theorem aip{f:aS}(h1:(-9223372036854775808:Int)<=f.1/\f.1<=9223372036854775807)(h2:(-9223372036854775808:Int)<=f.2.1/\f.2.1<=9223372036854775807)(h3:(-9223372036854775808:Int)<=f.2.2.2.1/\f.2.2.2.1<=9223372036854775807):
 (dX f).length<=80+(dP f.2.2.2.2.1).length/\(Lib.join (jy f) [32]).length<=47+(dP f.2.2.2.2.1).length:=by
 have q1:=AP h1;have q2:=AP h2;have q3:=AP h3;have e0:(bif f.2.2.1 then[115]else[111]:Bytes).length=1:=by cases f.2.2.1<;>rfl
 have hb:(Lib.join (jy f) [32]).length<=47+(dP f.2.2.2.2.1).length:=by rw[afE];simp only[auQ,auN,e0];omega
 refine⟨?_,hb⟩;have e:dX f=jX++32::(Lib.itoa f.1++32::Lib.join (jy f) [32]):=by unfold dX;rw[jD];unfold jy;rw[jD]
 rw[e];simp only[auQ,auN,show jX.length=4 from rfl];omega
def FP(a:List aW):Bool:=decide (a.length<=9)&&a.all λx=>decide (x.1.length<=10)&&decide (x.2.2.2.1.length<=10)
theorem acC:∀(a:List aW),(a.all λx=>decide (x.1.length<=10)&&decide (x.2.2.2.1.length<=10))=true->(dP a).length<=50*a.length
 |[],_=>auT _
 |a::r,h=>by rw[avS,auO,auO,au1,au1]at h;have ih:=acC r h.2;have hv:=@ajA a.2;show(32::(a.1++32::(bn a.2++dP r))).length<=50*(r.length+1);rw[auQ,auN,auQ,auN];omega
end Sp
namespace Sp
open Go
theorem ZJ:∀(sep:List UInt8)(k:Nat)(s:List UInt8),∃h t,Lib.splitK sep 0 k s=h::t
 |_,0,s=>⟨s,[],rfl⟩
 |sep,k+1,s=>by
  unfold Lib.splitK;split
  .exact⟨_,_,rfl⟩
  .exact⟨_,_,rfl⟩
theorem aow(b c:UInt8)(l h:List UInt8)(t:List (List UInt8))(hb:b≠c)(e:Lib.splitK [c] 0 (Lib.count l [c]) l=h::t):Lib.splitK [c] 0 (Lib.count (b::l) [c]) (b::l)=(b::h)::t:=by
 rw[Lib.count_cons_ne b c l hb];have hp:([c]:List UInt8).isPrefixOf (b::l)=false:=by simp[List.isPrefixOf,awM hb]
 have hix:Lib.index (b::l) [c]=if Lib.index l [c]==-1 then -1 else Lib.index l [c]+1:=by rw[Lib.index,hp];simp
 cases hk:Lib.count l [c]with
 |zero=>rw[hk]at e;simp only[Lib.splitK,List.cons.injEq]at e ⊢;exact⟨⟨trivial,e.1⟩,e.2⟩
 |succ k=>
  rw[hk]at e;by_cases hm:Lib.index l [c]=-1
  .rw[Lib.count_miss hm]at hk;cases hk
  .have hge:=Lib.index_ge l [c];obtain⟨j,hj⟩:∃j:Nat,Lib.index l [c]=j:=⟨(Lib.index l [c]).toNat,by omega⟩;have hix':Lib.index (b::l) [c]=((j+1:Nat):Int):=by rw[hix,if_neg (λe=>hm (avj.1 e)),hj];omega
   simp only[Lib.splitK]at e ⊢;rw[hj,if_neg (λh=>by have:=avj.1 h;omega)]at e;rw[hix',if_neg (λh=>by have:=avj.1 h;omega)];simp only[List.cons.injEq,ava]at e ⊢;refine⟨?_,?_⟩
   .rw[← e.1];rfl
   .rw[← e.2];rfl
theorem aox(c:UInt8)(l:List UInt8):Lib.splitK [c] 0 (Lib.count (c::l) [c]) (c::l)=[]::Lib.splitK [c] 0 (Lib.count l [c]) l:=by
 rw[Lib.count_cons_eq,axF];have hix:Lib.index (c::l) [c]=((0:Nat):Int):=by rw[Lib.index];simp[List.isPrefixOf]
 simp only[Lib.splitK];rw[hix,if_neg (by simp)];rfl
end Sp
namespace Sp
open Go
theorem Il(c:UInt8):∀(l cur h:Bytes)(t:List Bytes),Lib.splitK [c] 0 (Lib.count l [c]) l=h::t->(gW c cur l).map (·.1)=(cur++h)::t
 |[],cur,h,t,e=>by
  have h0:Lib.count [] [c]=0:=Lib.count_one c [];rw[h0]at e;simp only[Lib.splitK,List.cons.injEq]at e;rw[← e.1,← e.2,avi];rfl
 |b::l,cur,h,t,e=>by
  obtain⟨h',t',e'⟩:=ZJ [c] (Lib.count l [c]) l;by_cases hb:b=c
  .obtain rfl:b=c:=hb;rw[aox,List.cons.injEq]at e;have hl:gW b cur (b::l)=(cur,())::gW b [] l:=by rw[gW,avO];rfl
   rw[hl,au8,Il b l [] h' t' e',← e.1,← e.2,e',avi,avJ]
  .rw[aow b c l h' t' hb e',List.cons.injEq]at e;have hl:gW c cur (b::l)=gW c (cur++[b]) l:=by rw[gW,auP.2 hb];rfl
   rw[hl,Il c l (cur++[b]) h' t' e',← e.1,← e.2,au4];rfl
theorem ahO(c:UInt8)(s:Bytes):(pieces c s).map (·.1)=Lib.split s [c]:=by obtain⟨h,t,e⟩:=ZJ [c] (Lib.count s [c]) s;unfold pieces Lib.split;rw[Il c s [] h t e,e,avJ]
theorem PO(c:UInt8):∀(l cur:Bytes)(x:Bytes×Unit),x∈gW c cur l->x.1.length<=cur.length+l.length
 |[],cur,x,h=>by
  simp only[gW,avg]at h;subst h;simp
 |b::l,cur,x,h=>by
  rw[gW]at h;cases hb:b==c with
  |true=>
   rw[hb]at h;rcases au3.1 h with rfl|h
   .simp
   .have:=PO c l [] x h;simp at this ⊢;omega
  |false=>rw[hb]at h;have:=PO c l (cur++[b]) x h;simp at this ⊢;omega
theorem CU{c:UInt8}{s:Bytes}:∀x∈pieces c s,x.1.length<=s.length:=λx hx=>by have:=PO c s [] x hx;simpa using this
theorem Nq(c:UInt8):∀(l cur:Bytes),(gW c cur l).length<=l.length+1
 |[],cur=>auT _
 |b::l,cur=>by
  rw[gW];cases b==c with
  |true=>have:=Nq c l [];show _+1<=_;simp;omega
  |false=>have:=Nq c l (cur++[b]);show(gW c (cur++[b]) l).length<=_;simp;omega
theorem pieces_len(c:UInt8)(s:Bytes):(pieces c s).length<=s.length+1:=Nq c s []
end Sp
namespace Sp
open Go
theorem OG{n:ak}{a:Int}(hn:dO n a=true):(n.1=1\/n.1=2\/n.1=3\/n.1=4\/n.1=8\/n.1=9)\/n.1=5\/n.1=6\/n.1=7:=by
 obtain⟨op,l,r,s,k,m,t,⟨⟩⟩:=n;dsimp only;by_cases a1:op=1
 .omega
 by_cases a2:op=2
 .omega
 by_cases a3:op=3
 .omega
 by_cases a4:op=4
 .omega
 by_cases a5:op=5
 .omega
 by_cases a6:op=6
 .omega
 by_cases a7:op=7
 .omega
 by_cases a8:op=8
 .omega
 by_cases a9:op=9
 .omega
 unfold dO at hn;dsimp only at hn;rw[auP.2 a1,auP.2 a2,auP.2 a3,auP.2 a4,auP.2 a5,auP.2 a6,auP.2 a7,auP.2 a8,auP.2 a9]at hn;cases hn
theorem aj7{q:List ak}{i:Int}(k:Nat)(c:(nodeAt q i.toNat).1=1\/(nodeAt q i.toNat).1=2\/(nodeAt q i.toNat).1=3\/(nodeAt q i.toNat).1=4\/(nodeAt q i.toNat).1=8\/(nodeAt q i.toNat).1=9):bZ (k+1) q i=jA (nodeAt q i.toNat):=by rw[bZ,auP.2 (show(nodeAt q i.toNat).1≠5 by omega),auP.2 (show(nodeAt q i.toNat).1≠6 by omega),auP.2 (show(nodeAt q i.toNat).1≠7 by omega)];rfl
theorem amT{q:List ak}{i:Int}(h:ax q=true)(h0:0<=i)(hl:i<(q.length:Int))(c:(nodeAt q i.toNat).1=5):
 bZ (i.toNat+1) q i=fU 5::bZ ((nodeAt q i.toNat).2.1.toNat+1) q (nodeAt q i.toNat).2.1/\0<=(nodeAt q i.toNat).2.1/\(nodeAt q i.toNat).2.1<i:=by
 have hn:=(jK h (show i.toNat<q.length by omega)).1;have hk:=aeT hn c;have hk2:(nodeAt q i.toNat).2.1<i:=by have:=hk.2;omega
 refine⟨?_,hk.1,hk2⟩;rw[bZ,avj.2 c,c,CW h i.toNat ((nodeAt q i.toNat).2.1.toNat+1) (nodeAt q i.toNat).2.1 hk.1 (by omega) (by omega) (by omega)];rfl
theorem amU{q:List ak}{i:Int}(h:ax q=true)(h0:0<=i)(hl:i<(q.length:Int))(c:(nodeAt q i.toNat).1=6\/(nodeAt q i.toNat).1=7):
 bZ (i.toNat+1) q i=fU (nodeAt q i.toNat).1::(bZ ((nodeAt q i.toNat).2.1.toNat+1) q (nodeAt q i.toNat).2.1++bZ ((nodeAt q i.toNat).2.2.1.toNat+1) q (nodeAt q i.toNat).2.2.1)/\
  (0<=(nodeAt q i.toNat).2.1/\(nodeAt q i.toNat).2.1<i)/\0<=(nodeAt q i.toNat).2.2.1/\(nodeAt q i.toNat).2.2.1<i:=by
 have hn:=(jK h (show i.toNat<q.length by omega)).1;have hk:=aeU hn c;have e:((i.toNat:Nat):Int)=i:=by omega
 rw[e]at hk;refine⟨?_,hk.1,hk.2⟩;have hc:((nodeAt q i.toNat).1==6||(nodeAt q i.toNat).1==7)=true:=by rcases c with c|c<;>rw[c]<;>rfl
 rw[bZ,auP.2 (show(nodeAt q i.toNat).1≠5 by omega),hc,CW h i.toNat ((nodeAt q i.toNat).2.1.toNat+1) (nodeAt q i.toNat).2.1 hk.1.1 (by omega) (by omega) (by omega),
  CW h i.toNat ((nodeAt q i.toNat).2.2.1.toNat+1) (nodeAt q i.toNat).2.2.1 hk.2.1 (by omega) (by omega) (by omega)]
 rfl
theorem aij{q:List ak}{i:Int}(h:ax q=true)(h0:0<=i)(hl:i<(q.length:Int)):(Lib.join (bZ (i.toNat+1) q i) [32]).length<=12288:=by
 have:=(gy h).2;have hw:=Jo h (i.toNat+1) i h0 (by omega);have hp:2 ^ (i.toNat+1)<=2 ^ 9:=Nat.pow_le_pow_right (by decide) (by omega);refine auU (Jm _) ?_;have e:(2:Nat) ^ 9=512:=by decide
 omega
def Gz(w:Bytes):Nat->Int
 |0=>0
 |k+1=>bif w==fU ((k:Int)+1)then(k:Int)+1 else Gz w k
theorem acY(w:Bytes):Gz w 9=dF w:=by
 rcases AL w with h|⟨h,e⟩
 .have no:∀op:Int,(op=1\/op=2\/op=3\/op=4\/op=5\/op=6\/op=7\/op=8\/op=9)->(w==fU op)=false:=λop ho=>auP.2 λe=>by rw[e,zM ho]at h;omega
  rw[h];simp only[Gz];rw[no _ (by decide),no _ (by decide),no _ (by decide),no _ (by decide),no _ (by decide),no _ (by decide),no _ (by decide),no _ (by decide),no _ (by decide)];rfl
 .rw[← e];rcases h with h|h|h|h|h|h|h|h|h<;>rw[h]<;>decide
theorem acZ(w:Bytes):0<=dF w/\dF w<=9:=by rcases AL w with h|⟨h,_⟩<;>omega
theorem ac4{as:List aW}{n:Nat}(h:n<as.length):dV (as.take (n+1))=dV (as.take n)++[(as.getD n ([],0,0,[],())).1,bn (as.getD n ([],0,0,[],())).2]:=by
 induction as generalizing n with
 |nil=>exact absurd h (avR _)
 |cons a r ih=>
  cases n with
  |zero=>rfl
  |succ n=>
   have h:n<r.length:=by rw[auQ]at h;omega
   show a.1::bn a.2::dV (r.take (n+1))=a.1::bn a.2::(dV (r.take n)++_);rw[ih h];rfl
theorem Ih:∀as:List aW,(dV as).length=2*as.length
 |[]=>rfl
 |a::r=>by show(dV r).length+1+1=2*(r.length+1);rw[Ih r];omega
end Sp
namespace Sp
open Go
def Jp(q:List ak):QT->Nat->Prop
 |.leaf n,i=>nodeAt q i=n/\(n.1=1\/n.1=2\/n.1=3\/n.1=4\/n.1=8\/n.1=9)
 |.neg t,i=>(nodeAt q i).1=5/\Jp q t (nodeAt q i).2.1.toNat
 |.two op a b,i=>(nodeAt q i).1=op/\(op=6\/op=7)/\Jp q a (nodeAt q i).2.1.toNat/\Jp q b (nodeAt q i).2.2.1.toNat
theorem adq{q:List ak}:∀(t:QT)(i:Nat),Jp q t i->x9 t
 |.leaf _,_,h=>h.2
 |.neg t,_,h=>adq t _ h.2
 |.two _ a b,_,h=>⟨h.2.1,adq a _ h.2.2.1,adq b _ h.2.2.2⟩
theorem apS{q:List ak}(h:ax q=true)(i:Nat)(hi:i<q.length):∃t,Jp q t i:=by
 induction i using Nat.strongRecOn with
 |_ i ih=>
  obtain⟨g1,g2⟩:=l9 h hi;rcases OG (jK h hi).1 with c|c|c
  .exact⟨.leaf (nodeAt q i),rfl,c⟩
  .obtain⟨_,l⟩:=g1 (.inl c);obtain⟨t,ht⟩:=ih _ l (by omega);exact⟨.neg t,c,ht⟩
  .obtain⟨_,l1⟩:=g1 (.inr (lq.2 c));obtain⟨_,l2⟩:=g2 (lq.2 c);obtain⟨a,ha⟩:=ih _ l1 (by omega);obtain⟨b,hb⟩:=ih _ l2 (by omega);exact⟨.two (nodeAt q i).1 a b,rfl,c,ha,hb⟩
theorem adr{q:List ak}(h:ax q=true):∀(t:QT)(i:Nat),i<q.length->Jp q t i->zL t
 |.leaf n,i,hi,ht=>by
  obtain⟨rfl,c⟩:=ht;show dO (nodeAt q i) 0=true;rw[← IC (i:Int) c];exact(jK h hi).1
 |.neg t,i,hi,ht=>adr h t _ (by have:=((l9 h hi).1 (.inl ht.1)).2;omega) ht.2
 |.two op a b,i,hi,⟨e,c,ha,hb⟩=>by have c:iW (nodeAt q i)=true:=lq.2 (by rw[e];exact c);exact⟨adr h a _ (by have:=((l9 h hi).1 (.inr c)).2;omega) ha,adr h b _ (by have:=((l9 h hi).2 c).2;omega) hb⟩
theorem UA{q:List ak}(h:ax q=true):∀(t:QT)(i k:Nat),i<q.length->i<k->Jp q t i->bZ k q (i:Int)=aH t
 |_,_,0,_,hk,_=>absurd hk (avR _)
 |.leaf n,i,k+1,hi,hk,ht=>by
  obtain⟨rfl,c⟩:=ht;rw[bZ,ava,show((nodeAt q i).1==5)=false from auP.2 (by omega),show((nodeAt q i).1==6)=false from auP.2 (by omega),show((nodeAt q i).1==7)=false from auP.2 (by omega)];rfl
 |.neg t,i,k+1,hi,hk,⟨e,ht⟩=>by
  obtain⟨l0,l1⟩:=(l9 h hi).1 (.inl e);have ih:=UA h t _ k (by omega) (by omega) ht;rw[axL l0]at ih;rw[bZ,ava,ih,e];rfl
 |.two op a b,i,k+1,hi,hk,⟨e,c,ha,hb⟩=>by have c2:iW (nodeAt q i)=true:=lq.2 (by rw[e];exact c);obtain⟨l0,l1⟩:=(l9 h hi).1 (.inr c2);obtain⟨m0,m1⟩:=(l9 h hi).2 c2;have i1:=UA h a _ k (by omega) (by omega) ha;have i2:=UA h b _ k (by omega) (by omega) hb;rw[axL l0]at i1;rw[axL m0]at i2;rw[bZ,ava,i1,i2,e];rcases c with rfl|rfl<;>rfl
def vis(q:List ak):QT->Nat->List Nat
 |.leaf _,i=>[i]
 |.neg t,i=>i::vis q t (nodeAt q i).2.1.toNat
 |.two _ a b,i=>i::(vis q a (nodeAt q i).2.1.toNat++vis q b (nodeAt q i).2.2.1.toNat)
theorem Ym{q:List ak}:∀(t:QT)(i:Nat),(vis q t i).length=t.size
 |.leaf _,_=>rfl
 |.neg t,_=>by rw[vis,auQ,Ym t];rfl
 |.two _ a b,_=>by rw[vis,auQ,auN,Ym a,Ym b];rfl
theorem Rk{q:List ak}(h:ax q=true):∀(t:QT)(i:Nat),i<q.length->Jp q t i->∀p∈vis q t i,p<=i
 |.leaf _,i,_,_,p,hp=>by rw[avg.1 hp];exact auT _
 |.neg t,i,hi,⟨e,ht⟩,p,hp=>by
  obtain⟨_,l1⟩:=(l9 h hi).1 (.inl e);rcases au3.1 hp with rfl|hp
  .exact auT _
  .have:=Rk h t _ (by omega) ht p hp;omega
 |.two op a b,i,hi,⟨e,c,ha,hb⟩,p,hp=>by
  have c2:iW (nodeAt q i)=true:=lq.2 (by rw[e];exact c);obtain⟨_,l1⟩:=(l9 h hi).1 (.inr c2);obtain⟨_,m1⟩:=(l9 h hi).2 c2;rcases au3.1 hp with rfl|hp
  .exact auT _
  rcases avf.1 hp with hp|hp
  .have:=Rk h a _ (by omega) ha p hp;omega
  .have:=Rk h b _ (by omega) hb p hp;omega
theorem XT{n:ak}(j:Nat)(c:n.1=1\/n.1=2\/n.1=3\/n.1=4\/n.1=8\/n.1=9):refsOf j n=0:=by unfold refsOf iW;rcases c with e|e|e|e|e|e<;>simp[e]
theorem abg{n:ak}(j:Nat)(c:n.1=5)(h0:0<=n.2.1):refsOf j n=if j=n.2.1.toNat then 1 else 0:=by
 unfold refsOf iW;by_cases e:j=n.2.1.toNat
 .have:n.2.1=(j:Int):=by omega
  simp[c,this]
 .have:(n.2.1==(j:Int))=false:=auP.2 (by omega);simp[c,this,e]
theorem abh{n:ak}(j:Nat)(c:n.1=6\/n.1=7)(h0:0<=n.2.1)(h1:0<=n.2.2.1):refsOf j n=(if j=n.2.1.toNat then 1 else 0)+(if j=n.2.2.1.toNat then 1 else 0):=by
 unfold refsOf;rw[lq.2 c];have l:(n.2.1==(j:Int))=decide (j=n.2.1.toNat):=by rw[avp,avj,au1];omega
 have r:(n.2.2.1==(j:Int))=decide (j=n.2.2.1.toNat):=by rw[avp,avj,au1];omega
 rw[l,r];by_cases e1:j=n.2.1.toNat<;>by_cases e2:j=n.2.2.1.toNat<;>simp[e1,e2]
theorem IG(j i:Nat)(l:List Nat):(i::l).count j=(if j=i then 1 else 0)+l.count j:=by
 rw[List.count_cons];by_cases e:j=i
 .subst e;simp;omega
 .rw[if_neg e,if_neg (by simpa usingλh=>e h.symm)];omega
theorem UB{q:List ak}(h:ax q=true)(j:Nat):∀(t:QT)(i:Nat),i<q.length->Jp q t i->(vis q t i).count j=(if j=i then 1 else 0)+((vis q t i).map λp=>refsOf j (nodeAt q p)).sum
 |.leaf n,i,_,ht=>by
  obtain⟨rfl,c⟩:=ht;rw[vis,IG,au8,avT,XT j c];simp
 |.neg t,i,hi,⟨e,ht⟩=>by
  obtain⟨l0,l1⟩:=(l9 h hi).1 (.inl e);rw[vis,IG,UB h j t _ (by omega) ht,au8,avT,abg j e l0]
 |.two op a b,i,hi,⟨e,c,ha,hb⟩=>by
  have c1:(nodeAt q i).1=6\/(nodeAt q i).1=7:=by rw[e];exact c
  have c2:iW (nodeAt q i)=true:=lq.2 c1;obtain⟨l0,l1⟩:=(l9 h hi).1 (.inr c2);obtain⟨m0,m1⟩:=(l9 h hi).2 c2;rw[vis,IG,List.count_append,UB h j a _ (by omega) ha,UB h j b _ (by omega) hb,au8,avT,avN,awH,abh j c1 l0 m0];omega
theorem ako(f:Nat->Nat)(a:Nat):∀n,a<n->((List.range n).map λp=>(if p=a then 1 else 0)*f p).sum=f a
 |n+1,h=>by
  rw[axm,avN,awH,au8,axH,avT,List.sum_nil];by_cases e:n=a
  .subst e;have z:∀m,m<=n->((List.range m).map λp=>(if p=n then 1 else 0)*f p).sum=0:=by
    intro m
    induction m with
    |zero=>intro _;rfl
    |succ m ih=>intro hm;rw[axm,avN,awH,ih (by omega),au8,axH,avT,List.sum_nil,if_neg (by omega)];omega
   rw[z n (auT _),if_pos rfl];omega
  .rw[ako f a n (by omega),if_neg e];omega
theorem sum_add(f g:Nat->Nat):∀l:List Nat,(l.map λp=>f p+g p).sum=(l.map f).sum+(l.map g).sum
 |[]=>rfl
 |a::l=>by rw[au8,avT,sum_add f g l,au8,avT,au8,avT];omega
theorem XU(f:Nat->Nat)(n:Nat):∀l:List Nat,(∀p∈l,p<n)->(l.map f).sum=((List.range n).map λp=>l.count p*f p).sum
 |[],_=>by
  have:∀r:List Nat,(r.map λp=>([]:List Nat).count p*f p).sum=0:=by
   intro r
   induction r with
   |nil=>rfl
   |cons a r ih=>rw[au8,avT,ih];simp
  rw[this];rfl
 |a::l,h=>by
  have e:(λp=>(a::l).count p*f p)=λp=>(if p=a then 1 else 0)*f p+l.count p*f p:=by
   funext p
   rw[IG,avw]
  rw[e,sum_add,ako f a n (h a au0),au8,avT,XU f n l λp hp=>h p (auZ _ hp)]
theorem map_range(g:ak->Nat)(q:List ak):q.map g=(List.range q.length).map λp=>g (nodeAt q p):=by refine axe (by simp) λi h1 h2=>?_;rw[au7]at h1;rw[axx,axx,List.getElem_range];unfold nodeAt;rw[auS,auX h1];rfl
theorem UC{f g:Nat->Nat}:∀l:List Nat,(∀p∈l,f p=g p)->(l.map f).sum=(l.map g).sum
 |[],_=>rfl
 |a::l,h=>by rw[au8,avT,au8,avT,h a au0,UC l λp hp=>h p (auZ _ hp)]
theorem afL{q:List ak}(h:ax q=true){p j:Nat}(hp:p<q.length)(hj:p<=j):refsOf j (nodeAt q p)=0:=by
 obtain⟨g1,g2⟩:=l9 h hp;rcases OG (jK h hp).1 with c|c|c
 .exact XT j c
 .obtain⟨l0,l1⟩:=g1 (.inl c);rw[abg j c l0,if_neg (by omega)]
 .obtain⟨l0,l1⟩:=g1 (.inr (lq.2 c));obtain⟨m0,m1⟩:=g2 (lq.2 c);rw[abh j c l0 m0,if_neg (by omega),if_neg (by omega)]
theorem count_one{q:List ak}(h:ax q=true){t:QT}(ht:Jp q t (q.length-1)):∀(m j:Nat),j<q.length->q.length-1-j=m->(vis q t (q.length-1)).count j=1:=by
 intro m;have hl:=gy h
 induction m using Nat.strongRecOn with
 |_ m ih=>
  intro j hj hm;rw[UB h j t _ (by omega) ht,XU _ q.length _ λp hp=>by have:=Rk h t _ (by omega) ht p hp;omega];have e:((List.range q.length).map λp=>(vis q t (q.length-1)).count p*refsOf j (nodeAt q p)).sum=((List.range q.length).map λp=>refsOf j (nodeAt q p)).sum:=by
   refine UC _ λp hp=>?_;have hp:=avD.1 hp;rcases avb j p with g|g
   .rw[ih (q.length-1-p) (by omega) p hp rfl,axP]
   .rw[afL h hp g,Nat.mul_zero]
  rw[e];by_cases c:j=q.length-1
  .rw[if_pos c];have z:((List.range q.length).map λp=>refsOf j (nodeAt q p)).sum=((List.range q.length).map λ_=>0).sum:=UC _ λp hp=>afL h (avD.1 hp) (by have:=avD.1 hp;omega);rw[z];have:∀r:List Nat,(r.map λ_=>0).sum=0:=by
    intro r
    induction r with
    |nil=>rfl
    |cons a r ih=>rw[au8,avT,ih]
   rw[this]
  .rw[if_neg c];have:=(jK h hj).2 (by omega);unfold gK at this;rw[map_range]at this;rw[this]
theorem anf{q:List ak}(h:ax q=true){t:QT}(ht:Jp q t (q.length-1)):t.size=q.length:=by
 have hl:=gy h;have e:=XU (λ_=>1) q.length (vis q t (q.length-1)) λp hp=>by have:=Rk h t _ (by omega) ht p hp;omega
 have ones:∀r:List Nat,(r.map λ_=>1).sum=r.length:=by
  intro r
  induction r with
  |nil=>rfl
  |cons a r ih=>rw[au8,avT,ih,auQ];omega
 rw[ones,Ym,UC (g:=λ_=>1) _ λp hp=>by rw[count_one h ht _ p (avD.1 hp) rfl],ones,List.length_range]at e;exact e
theorem PS{l r:List ak}{i:Nat}(h:i<l.length):nodeAt (l++r) i=nodeAt l i:=by unfold nodeAt;rw[auS,avA h,← auS]
theorem Nr{l r:List ak}{i:Nat}(h:l.length<=i):nodeAt (l++r) i=nodeAt r (i-l.length):=by unfold nodeAt;rw[auS,avq h,← auS]
theorem aqM{l a:Int}(h0:0<=l)(h1:l<=a-1):dO (5,l,0,[],0,0,[],()) a=true:=by
 have h2:0<a:=by omega
 unfold dO;simp[h0,h1,h2]
theorem ok_two{op l r a:Int}(c:op=6\/op=7)(h0:0<=l)(h1:l<=a-1)(g0:0<=r)(g1:r<=a-1):dO (op,l,r,[],0,0,[],()) a=true:=by
 have h2:0<a:=by omega
 unfold dO;rcases c with rfl|rfl<;>simp[h0,h1,h2,g0,g1]
theorem Yn:∀(t:QT)(b i:Nat),x9 t->zL t->i<t.size->dO (nodeAt (post t b) i) ((b+i:Nat):Int)=true
 |.leaf n,b,i,hw,ho,hi=>by
  have hi:i<1:=hi;obtain rfl:i=0:=by omega
  show dO n _=true;rw[IC _ hw];exact ho
 |.neg t,b,i,hw,ho,hi=>by
  have hi:i<t.size+1:=hi;have hp:=eG t b;have hs:=size_pos t;rw[post];rcases avb i t.size with g|g
  .rw[PS (by omega)];exact Yn t b i hw ho g
  .rw[Nr (by omega),hp,show i-t.size=0 by omega];exact aqM (by omega) (by omega)
 |.two op x y,b,i,⟨c,w1,w2⟩,⟨o1,o2⟩,hi=>by
  have hi:i<x.size+y.size+1:=hi;have hp:=eG x b;have hp2:=eG y (b+x.size);have hs:=size_pos x;have hs2:=size_pos y;rw[post];rcases avb i x.size with g|g
  .rw[PS (by omega)];exact Yn x b i w1 o1 g
  .rw[Nr (by omega),hp];rcases avb (i-x.size) y.size with g2|g2
   .rw[PS (by omega)];have:=Yn y (b+x.size) (i-x.size) w2 o2 g2
    rwa [show b+x.size+(i-x.size)=b+i by omega]at this
   .rw[Nr (by omega),hp2,show i-x.size-y.size=0 by omega];exact ok_two c (by omega) (by omega) (by omega) (by omega)
theorem OT:∀(t:QT)(b j:Nat),x9 t->gK (post t b) j=if b<=j/\j+1<b+t.size then 1 else 0
 |.leaf n,b,j,hw=>by
  have:gK (post (.leaf n) b) j=refsOf j n+0:=rfl;rw[this,XT j hw,if_neg (by show ¬(b<=j/\j+1<b+1);omega)]
 |.neg t,b,j,hw=>by
  have hs:=size_pos t;have e:gK (post (.neg t) b) j=gK (post t b) j+(refsOf j (5,((b+t.size:Nat):Int)-1,0,[],0,0,[],())+0):=by unfold gK;rw[post,avN,awH];rfl
  rw[e,OT t b j hw,abg j rfl (by show 0<=((b+t.size:Nat):Int)-1;omega)];have e2:(((b+t.size:Nat):Int)-1).toNat=b+t.size-1:=by omega
  show _+((if j=(((b+t.size:Nat):Int)-1).toNat then 1 else 0)+0)=if b<=j/\j+1<b+(t.size+1)then 1 else 0
  rw[e2];split<;>split<;>split<;>omega
 |.two op x y,b,j,⟨c,w1,w2⟩=>by
  have hs:=size_pos x;have hs2:=size_pos y;have e:gK (post (.two op x y) b) j=gK (post x b) j+(gK (post y (b+x.size)) j+(refsOf j (op,((b+x.size:Nat):Int)-1,((b+x.size+y.size:Nat):Int)-1,[],0,0,[],())+0)):=by unfold gK;rw[post,avN,awH,avN,awH];rfl
  rw[e,OT x b j w1,OT y _ j w2,abh j c (by show 0<=((b+x.size:Nat):Int)-1;omega) (by show 0<=((b+x.size+y.size:Nat):Int)-1;omega)];have e2:(((b+x.size:Nat):Int)-1).toNat=b+x.size-1:=by omega
  have e3:(((b+x.size+y.size:Nat):Int)-1).toNat=b+x.size+y.size-1:=by omega
  show _+(_+((if j=(((b+x.size:Nat):Int)-1).toNat then 1 else 0)+(if j=(((b+x.size+y.size:Nat):Int)-1).toNat then 1 else 0)+0))=if b<=j/\j+1<b+(x.size+y.size+1)then 1 else 0
  rw[e2,e3];split<;>split<;>split<;>split<;>split<;>omega
theorem aiO{t:QT}(hw:x9 t)(ho:zL t)(hs:t.size<=9):ax (post t 0)=true:=by
 have hp:=size_pos t;unfold ax;rw[eG,auO,auO,au1,au1];refine⟨?_,by omega,by omega⟩;unfold jd;rw[au9];intro i hi;have hi:=avD.1 hi;have h1:=Yn t 0 i hw ho hi;rw[avm]at h1;unfold kN;rw[h1,awJ,eG,OT t 0 i hw];by_cases c:(i:Int)<(t.size:Int)-1
 .rw[if_pos (by omega)];simp
 .rw[au6 c];rfl
theorem UD:∀(t:QT)(l r:List ak),x9 t->Jp (l++(post t l.length++r)) t (l.length+t.size-1)
 |.leaf n,l,r,hw=>by
  refine⟨?_,hw⟩;show nodeAt (l++(n::r)) l.length=n;exact Dt l r n
 |.neg t,l,r,hw=>by
  have hs:=size_pos t;have e:l++(post (.neg t) l.length++r)=l++(post t l.length++(((5,((l.length+t.size:Nat):Int)-1,0,[],0,0,[],()):ak)::r)):=by show l++((post t l.length++[_])++r)=_;rw[au4];rfl
  have en:nodeAt (l++(post (.neg t) l.length++r)) (l.length+t.size)=(5,((l.length+t.size:Nat):Int)-1,0,[],0,0,[],()):=by rw[e,← au4,show l.length+t.size=(l++post t l.length).length by rw[auN,eG]];exact Dt _ _ _
  have ei:l.length+(QT.neg t).size-1=l.length+t.size:=by show l.length+(t.size+1)-1=_;omega
  have ih:=UD t l ((5,((l.length+t.size:Nat):Int)-1,0,[],0,0,[],())::r) hw;rw[← e]at ih;rw[ei];refine⟨by rw[en],?_⟩;rw[en];show Jp _ t (((l.length+t.size:Nat):Int)-1).toNat;rw[show(((l.length+t.size:Nat):Int)-1).toNat=l.length+t.size-1 by omega];exact ih
 |.two op x y,l,r,⟨c,w1,w2⟩=>by
  have hs:=size_pos x;have hs2:=size_pos y;generalize hn:((op,((l.length+x.size:Nat):Int)-1,((l.length+x.size+y.size:Nat):Int)-1,[],0,0,[],()):ak)=N;have e:l++(post (.two op x y) l.length++r)=l++(post x l.length++(post y (l.length+x.size)++(N::r))):=by show l++((post x l.length++(post y (l.length+x.size)++[_]))++r)=_;rw[hn,au4,au4];rfl
  have i1:=UD x l (post y (l.length+x.size)++(N::r)) w1;have i2:=UD y (l++post x l.length) (N::r) w2;rw[auN,eG,au4]at i2;rw[← e]at i1 i2;have en:nodeAt (l++(post (.two op x y) l.length++r)) (l.length+x.size+y.size)=N:=by rw[e,← au4,← au4,show l.length+x.size+y.size=((l++post x l.length)++post y (l.length+x.size)).length by rw[auN,auN,eG,eG]];exact Dt _ _ _
  have ei:l.length+(QT.two op x y).size-1=l.length+x.size+y.size:=by show l.length+(x.size+y.size+1)-1=_;omega
  rw[ei];refine⟨by rw[en,← hn],c,?_,?_⟩
  .rw[en,← hn];show Jp _ x (((l.length+x.size:Nat):Int)-1).toNat;rw[show(((l.length+x.size:Nat):Int)-1).toNat=l.length+x.size-1 by omega];exact i1
  .rw[en,← hn];show Jp _ y (((l.length+x.size+y.size:Nat):Int)-1).toNat;rw[show(((l.length+x.size+y.size:Nat):Int)-1).toNat=l.length+x.size+y.size-1 by omega];exact i2
def tD:QT->Bool->List (Bool×Bytes)
 |.leaf n,p=>bif pR n then[(p,n.2.2.2.1)]else[]
 |.neg t,_=>tD t true
 |.two _ a b,p=>tD a p++tD b p
theorem aiP{n:ak}(c:n.1=5\/n.1=6\/n.1=7):pR n=false:=by unfold pR;rcases c with e|e|e<;>rw[e]<;>rfl
theorem ads{q:List ak}(h:ax q=true)(x:Bool×Bytes):∀(t:QT)(i:Nat),i<q.length->Jp q t i->(x∈tD t (uD q i)↔∃p∈vis q t i,pR (nodeAt q p)=true/\x=(uD q p,(nodeAt q p).2.2.2.1))
 |.leaf n,i,hi,⟨e,c⟩=>by
  subst e;rw[tD];cases hn:pR (nodeAt q i)with
  |true=>exact⟨λhx=>⟨i,au0,hn,avg.1 hx⟩,λ⟨p,hp,_,e⟩=>by rw[avg.1 hp]at e;rw[e];exact au0⟩
  |false=>exact⟨λhx=>(ax1 hx).elim,λ⟨p,hp,e,_⟩=>by rw[avg.1 hp,hn]at e;cases e⟩
 |.neg t,i,hi,⟨e,ht⟩=>by
  obtain⟨l0,l1⟩:=(l9 h hi).1 (.inl e);have ih:=ads h x t _ (by omega) ht;rw[(Ur h hi).1 e]at ih;rw[tD,vis,ih];refine⟨λ⟨p,hp,r⟩=>⟨p,auZ _ hp,r⟩,λ⟨p,hp,r⟩=>?_⟩;rcases au3.1 hp with rfl|hp
  .rw[aiP (.inl e)]at r;cases r.1
  .exact⟨p,hp,r⟩
 |.two op a b,i,hi,⟨e,c,ha,hb⟩=>by
  have c1:(nodeAt q i).1=6\/(nodeAt q i).1=7:=by rw[e];exact c
  have c2:iW (nodeAt q i)=true:=lq.2 c1;obtain⟨l0,l1⟩:=(l9 h hi).1 (.inr c2);obtain⟨m0,m1⟩:=(l9 h hi).2 c2;obtain⟨n1,n2⟩:=(Ur h hi).2 c2;have i1:=ads h x a _ (by omega) ha;have i2:=ads h x b _ (by omega) hb;rw[n1]at i1;rw[n2]at i2;rw[tD,vis,avf,i1,i2];refine⟨λhx=>?_,λ⟨p,hp,r⟩=>?_⟩
  .rcases hx with⟨p,hp,r⟩|⟨p,hp,r⟩
   .exact⟨p,auZ _ (avC _ hp),r⟩
   .exact⟨p,auZ _ (avV _ hp),r⟩
  .rcases au3.1 hp with rfl|hp
   .rw[aiP (.inr c1)]at r;cases r.1
   rcases avf.1 hp with hp|hp
   .exact .inl ⟨p,hp,r⟩
   .exact .inr ⟨p,hp,r⟩
theorem afM{q:List ak}(h:ax q=true){t:QT}(ht:Jp q t (q.length-1))(s:Bytes)(b:Bool):s∈dU q b↔(b,s)∈tD t false:=by
 have hl:=gy h;have hn:(negated q).length=q.length:=by unfold negated;rw[h];show(iI _ _ _).length=_;rw[Bo];simp
 have key:=ads h (b,s) t (q.length-1) (by omega) ht;rw[adg h]at key;rw[key];constructor
 .intro hs;unfold dU at hs;rw[awD]at hs;obtain⟨i,hi,e⟩:=hs;have hi:i<q.length:=by rw[hn]at hi;exact avD.1 hi
  cases hc:pR (nodeAt q i)&&((negated q).getD i (false,())).1==b with
  |false=>rw[hc]at e;cases e
  |true=>rw[hc]at e;rw[auO]at hc;have e:(nodeAt q i).2.2.2.1=s:=Option.some.inj e;have hb:uD q i=b:=avj.1 hc.2;refine⟨i,List.count_pos_iff.1 (by rw[count_one h ht _ i hi rfl];decide),hc.1,by rw[hb,e]⟩
 .rintro⟨p,hp,hd,e⟩;have hp:p<q.length:=by have:=Rk h t _ (by omega) ht p hp;omega
  have:=abd h hp hd;rw[show b=uD q p from congrArg (·.1) e,show s=(nodeAt q p).2.2.2.1 from congrArg (·.2) e];exact this
theorem GU{q:List ak}(h:ax q=true):∃t,x9 t/\zL t/\t.size=q.length/\textOf q=Lib.join (aH t) [32]/\gq (textOf q)=true/\fM (textOf q)=post t 0/\ax (post t 0)=true/\∀s b,s∈dU (post t 0) b↔s∈dU q b:=by
 have hl:=gy h;obtain⟨t,ht⟩:=apS h (q.length-1) (by omega);have hw:=adq t _ ht;have ho:=adr h t _ (by omega) ht;have hz:=anf h ht;have hq:=aiO hw ho (by omega);have hx:=UA h t (q.length-1) 9 (by omega) (by omega) ht;have e:textOf q=Lib.join (aH t) [32]:=by unfold textOf;rw[h,show((q.length:Int)-1)=((q.length-1:Nat):Int) by omega,hx];rfl
 obtain⟨n1,n2⟩:=Dc t hw ho;obtain⟨g1,g2⟩:=ado (Ej t hw ho) (auU (auU (Jm _) n2) (by omega)) (by omega);have hp:gq (textOf q)=true:=(Uz _).2 ⟨by rw[e];exact g1,t,hw,hq,by rw[e];exact g2⟩;have ep:fM (textOf q)=post t 0:=by rw[(TT hp).2.1,aiJ hw hq (by rw[e];exact g2)]
 refine⟨t,hw,ho,hz,e,hp,ep,hq,λs b=>?_⟩;have hi:=UD t [] [] hw;rw[avi,avJ,auW,avm]at hi;rw[afM h ht,afM hq (t:=t) (by rw[eG];exact hi)]
end Sp
namespace Sp
open Go
abbrev II:=Bool×List aW×Unit
def Ns:II:=(false,[],())
def aqN(l:List aW)(x:aW):Bool:=l.any λy=>y.1==x.1
def aqO(l:List aW)(x:aW):Bool:=l.any λy=>y.1==x.1&&!decide (y.2=x.2)
def ang(name:Bytes)(y:aW):Bool:=Op.bytesLess y.1 name
def ate(l:List aW)(x:aW):List aW:=l.takeWhile (ang x.1)++x::l.dropWhile (ang x.1)
def aiQ(a:List aW):List aW->List aW->Option (List aW)
 |acc,[]=>some acc
 |acc,x::r=>bif aqO a x then none else bif aqN a x then aiQ a acc r else aiQ a (ate acc x) r
def arP:Option (List aW)->II
 |some l=>(true,l,())
 |none=>Ns
def aqP(a b:II):II:=bif a.1&&b.1 then arP (aiQ a.2.1 a.2.1 b.2.1)else Ns
def atf(a b:II):II:=bif a.1==b.1 then Ns else bif a.1 then a else b
def Rl(q:List ak)(f:aS)(X:BX)(a:Nat)(m:Bool):II:=
 if val q f X a=m then(true,[],())
 else if(nodeAt q a).1=5 then(if h:(nodeAt q a).2.1.toNat<a then Rl q f X (nodeAt q a).2.1.toNat (!m)else Ns)
 else if iW (nodeAt q a)=true then(if h:(nodeAt q a).2.1.toNat<a/\(nodeAt q a).2.2.1.toNat<a then
  (bif ((nodeAt q a).1==6)==m then aqP (Rl q f X (nodeAt q a).2.1.toNat m) (Rl q f X (nodeAt q a).2.2.1.toNat m)
   else atf (Rl q f X (nodeAt q a).2.1.toNat m) (Rl q f X (nodeAt q a).2.2.1.toNat m))else Ns)
 else if(nodeAt q a).1=3/\m=true then(true,[((nodeAt q a).2.2.2.1,(nodeAt q a).2.2.2.2.1,(nodeAt q a).2.2.2.2.2.1,(nodeAt q a).2.2.2.2.2.2.1,())],())
 else if(nodeAt q a).1=2/\m=false then(true,[((nodeAt q a).2.2.2.1,0,0,[],())],())
 else Ns
termination_by a
decreasing_by all_goals omega
end Sp
namespace Sp
open Go
def aqQ(a l:List aW):List aW:=l.foldl (λa x=>jb a x.1 x.2.1 x.2.2.1 x.2.2.2.1) a
def anh(l:List aW)(i:Nat):List aW:=l.take i++l.drop (i+1)
def edited(f:aS)(l:List aW):aS:=(f.1,f.2.1,f.2.2.1,f.2.2.2.1,aqQ f.2.2.2.2.1 l,())
theorem Xf{fs:List dR}{f:aS}(h:dG fs f=true):ji fs f.2.2.2.2.1=true:=by unfold dG at h;simp only[auO]at h;exact h.1.1.1.1
end Sp
namespace Sp
open Go
theorem Xe{s:dZ}:bM s=true↔(∀f∈s.2.1,dG s.1 f=true/\f.1<s.2.2.1)/\(s.2.1.Pairwise λf g=>f.1<g.1)/\eF s.1=true/\s.2.1.length<=12/\1<=s.2.2.1/\s.2.2.1<=61:=by
 have at_:∀i(hi:i<s.2.1.length),fileAt s.2.1 i=s.2.1[i]:=λi hi=>by unfold fileAt;rw[auS,auX hi];rfl
 constructor
 .intro h;obtain⟨h1,h2,h3,h4,h5⟩:=oU.1 h;refine⟨λf hf=>?_,?_,h2,h3,h4,h5⟩
  .obtain⟨i,hi,rfl⟩:=alD hf;obtain⟨k1,k2,_⟩:=nI.1 (h1 i hi);exact⟨k1,k2⟩
  .refine awX.2 λi j hi hj hij=>?_;have:=am8 h j i hij hj
   rwa [at_ i hi,at_ j hj]at this
 .rintro⟨h1,h2,h3⟩;refine oU.2 ⟨λi hi=>nI.2 ⟨(h1 _ (adh hi)).1,(h1 _ (adh hi)).2,λh0=>?_⟩,h3⟩;rw[at_ i hi,at_ (i-1) (by omega)];exact awX.1 h2 (i-1) i (by omega) hi (by omega)
open Classical in
noncomputable def ani (fs:List aS) (d:List bD):List yE:=if h:∃out,ao0 fs d [] (λ_=>true) out then h.choose else[]
noncomputable def apT (s:dZ) (d:List bD) (u:Int) (name:Bytes):List (Int×Unit):=XL (ani (visible s u).2.1 d) name
noncomputable def listed (s:dZ) (d:List bD) (u:Int) (name:Bytes) (id:Int):Bool:=agP (apT s d u name) id
def akp(d:List bD)(name:Bytes):bD×Bool:=bif decide (aC d name<0)then(([],[],()),false)else(dm d (aC d name).toNat,true)
def aqR(s:dZ)(u id:Int):aS:=(Ul (visible s u) id).1
def arQ(q:List ak)(f:aS)(X:BX)(m:Bool):II:=bif ax q then Rl q f X (q.length-1) m else Ns
noncomputable def alL (c:Ik) (u:Int) (name:Bytes) (id:Int) (b:Bool):II:=
 arQ (akp (KW c) name).1.2.1 (aqR (Jj c) u id) (Un (ani (visible (Jj c) u).2.1 (KW c))) b
def aiR(c:Ik)(id:Int)(l:List aW):dZ×Bool:=ajs (Jj c) (edited (Ul (Jj c) id).1 l)
noncomputable def needed (c:Ik) (u:Int) (name:Bytes) (id:Int) (b:Bool) (l:List aW) (i:Nat):Bool:=
 (aiR c id (anh l i)).2&&!(listed (aiR c id (anh l i)).1 (KW c) u name id==b)
noncomputable def aqS (c:Ik) (u:Int) (name:Bytes) (id:Int) (b:Bool) (w:II):Bool:=
 w.1&&((aiR c id w.2.1).2&&((listed (aiR c id w.2.1).1 (KW c) u name id==b)&&jd w.2.1.length (needed c u name id b w.2.1)))
noncomputable def atg (c:Ik) (u:Int) (name:Bytes) (id:Int) (b:Bool):Bool:=
 (ao1 c&&(aon c u id&&(akp (KW c) name).2))&&aqS c u name id b (alL c u name id b)
def written(c:Ik)(u:Int)(name:Bytes)(id:Int)(b:Bool)(c':Ik)(set:List aW)(ok:Bool):Prop:=
 ok=atg c u name id b/\(ok=true->Jj c'=(aiR c id (alL c u name id b).2.1).1/\KW c'=KW c/\ao1 c'=true/\set=(alL c u name id b).2.1)/\(ok=false->c'=c/\set=[])
end Sp
namespace Sp
open Go
def gV:Bytes:=[102,105,101,108,100]
def qA:Bytes:=[110,101,120,116]
def jw:Bytes:=[100,105,114]
def Gt:Bytes:=[105,110,116]
def sV:Bytes:=[115,116,114,105,110,103]
def bJ(f:dR):Bytes:=bif !dB f.1 then[]else bif f.2.1==1 then gV++32::(f.1++32::Gt)else bif f.2.1==2 then gV++32::(f.1++32::sV)else[]
def iC(n:Int):Bytes:=qA++32::Lib.itoa n
def ig(d:bD):Bytes:=jw++32::(d.1++32::textOf d.2.1)
def yC(x:aZ):List Bytes:=x.1.map bJ++(iC x.2.2.1::(x.2.1.map dX++x.2.2.2.1.map ig))
noncomputable def enc (x:aZ):LS:=bif bT x then ls (yC x)else[]
def cZ:aZ:=([],[],0,[],())
def kU(x:aZ)(w:LS):aZ×Bool:=
 bif wordAt w 0==gV&&decide ((w.length:Int)=3)then((x.1++[(wordAt w 1,(bif wordAt w 2==sV then 2 else 1),())],x.2.1,x.2.2.1,x.2.2.2.1,()),true)
 else bif wordAt w 0==qA&&decide ((w.length:Int)=2)then((x.1,x.2.1,parseNum (wordAt w 1),x.2.2.2.1,()),aY (wordAt w 1))
 else bif wordAt w 0==jX then((x.1,x.2.1++[(jv (w.drop 1)).1],x.2.2.1,x.2.2.2.1,()),(jv (w.drop 1)).2)
 else bif wordAt w 0==jw&&decide (2<(w.length:Int))then((x.1,x.2.1,x.2.2.1,x.2.2.2.1++[(wordAt w 1,fM (gm (w.drop 2)),())],()),gq (gm (w.drop 2)))
 else(x,false)
def gJ:aZ->LS->aZ×Bool
 |x,[]=>(x,true)
 |x,l::r=>bif (kU x (pieces 32 l.1)).2 then gJ (kU x (pieces 32 l.1)).1 r else((kU x (pieces 32 l.1)).1,false)
noncomputable def ahY (l:LS):aZ×Bool:=bif (gJ cZ l).2&&(bT (gJ cZ l).1&&decide (enc (gJ cZ l).1=l))then((gJ cZ l).1,true)else(cZ,false)
def Aw(x:aZ)(w:LS):aZ:=
 bif wordAt w 0==gV then(x.1++[(wordAt w 1,(bif wordAt w 2==Gt then 1 else 2),())],x.2.1,x.2.2.1,x.2.2.2.1,())
 else bif wordAt w 0==qA then(x.1,x.2.1,numAt w 1,x.2.2.2.1,())
 else bif wordAt w 0==jX then(x.1,x.2.1++[Dp (numAt w 1) (w.drop 2)],x.2.2.1,x.2.2.2.1,())
 else bif wordAt w 0==jw then(x.1,x.2.1,x.2.2.1,x.2.2.2.1++[(wordAt w 1,(bif decide (2<(w.length:Int))then fM (gm (w.drop 2))else[]),())],())
 else x
def jf:aZ->LS->aZ
 |x,[]=>x
 |x,l::r=>jf (Aw x (bf l.1)) r
noncomputable def dec (l:LS):aZ×Bool:=bif bT (jf cZ l)&&decide (enc (jf cZ l)=l)then(jf cZ l,true)else(cZ,false)
def wB(d:bD):bD:=(d.1,fM (textOf d.2.1),())
def norm(x:aZ):aZ:=(x.1,x.2.1,x.2.2.1,x.2.2.2.1.map wB,())
theorem GV{ws:List Bytes}(h:∀x∈ws,fine x)(hl:rW ws<=600)(hc:ws.length<=24)(h0:ws≠[]):bf (Lib.join ws [32])=ls ws/\pieces 32 (Lib.join ws [32])=ls ws/\(Lib.join ws [32]).length<=600:=by have hb:=auU (Jm ws) hl;obtain⟨g1,g2⟩:=ado h hb hc;refine⟨by unfold bf;rw[g1,g2];rfl,ZI ws h0 λw hw x hx e=>?_,hb⟩;have:=(h w hw).1.2 x hx;rw[e]at this;exact absurd this (by decide)
theorem anj{s:Bytes}(h:dB s=true):fine s:=uF (kQ h)
theorem Ue{s:Bytes}(h:dB s=true):s.length<=1:=by unfold dB at h;simp only[auO,au1]at h;omega
theorem XV(x y z:Bytes):x++32::(y++32::z)=Lib.join [x,y,z] [32]:=(acQ x y z).symm
theorem adt{f:dR}(h1:dB f.1=true)(h2:f.2.1=1\/f.2.1=2)(x:aZ):
 kU x (pieces 32 (bJ f))=((x.1++[f],x.2.1,x.2.2.1,x.2.2.2.1,()),true)/\Aw x (bf (bJ f))=(x.1++[f],x.2.1,x.2.2.1,x.2.2.2.1,())/\(bJ f).length<=600/\(∃ws:List Bytes,bJ f=Lib.join ws [32]/\∀w∈ws,fine w):=by
 obtain⟨nm,k,⟨⟩⟩:=f;have hk:nm.length<=1:=Ue h1;dsimp only at h1 h2;have hf:fine gV:=⟨⟨by decide,by decide⟩,by decide⟩;have hn:=anj h1;rcases h2 with rfl|rfl
 .have e:bJ (nm,1,())=Lib.join [gV,nm,Gt] [32]:=by unfold bJ;rw[h1,← XV];rfl
  have hi:fine Gt:=⟨⟨by decide,by decide⟩,by decide⟩;have all:∀w∈[gV,nm,Gt],fine w:=λw hw=>by
   rcases au3.1 hw with rfl|hw
   .exact hf
   rcases au3.1 hw with rfl|hw
   .exact hn
   .rw[avg.1 hw];exact hi
  obtain⟨a,b,c⟩:=GV all (by rw[fO,fO,fO];show 5+1+(nm.length+1+(3+1+0))<=600;omega) (by show 3<=24;omega) (by simp);rw[e,a,b];exact⟨rfl,rfl,c,_,rfl,all⟩
 .have e:bJ (nm,2,())=Lib.join [gV,nm,sV] [32]:=by unfold bJ;rw[h1,← XV];rfl
  have hi:fine sV:=⟨⟨by decide,by decide⟩,by decide⟩;have all:∀w∈[gV,nm,sV],fine w:=λw hw=>by
   rcases au3.1 hw with rfl|hw
   .exact hf
   rcases au3.1 hw with rfl|hw
   .exact hn
   .rw[avg.1 hw];exact hi
  obtain⟨a,b,c⟩:=GV all (by rw[fO,fO,fO];show 5+1+(nm.length+1+(6+1+0))<=600;omega) (by show 3<=24;omega) (by simp);rw[e,a,b];exact⟨rfl,rfl,c,_,rfl,all⟩
theorem afN{n:Int}(h:fZ n=true)(x:aZ):
 kU x (pieces 32 (iC n))=((x.1,x.2.1,n,x.2.2.2.1,()),true)/\Aw x (bf (iC n))=(x.1,x.2.1,n,x.2.2.2.1,())/\(iC n).length<=600/\(∃ws:List Bytes,iC n=Lib.join ws [32]/\∀w∈ws,fine w):=by
 have e:iC n=Lib.join [qA,Lib.itoa n] [32]:=by rw[TN];rfl
 have all:∀w∈[qA,Lib.itoa n],fine w:=λw hw=>by
  rcases au3.1 hw with rfl|hw
  .exact⟨⟨by decide,by decide⟩,by decide⟩
  .rw[avg.1 hw];exact Jk h
 have hl:=(kF h).2.2.2.2;obtain⟨a,b,c⟩:=GV all (by rw[fO,fO];show 4+1+((Lib.itoa n).length+1+0)<=600;omega) (by show 2<=24;omega) (by simp);obtain⟨p1,p2⟩:=rE h;rw[e,a,b];refine⟨?_,?_,c,_,rfl,all⟩
 .show((x.1,x.2.1,parseNum (Lib.itoa n),x.2.2.2.1,()),aY (Lib.itoa n))=_;rw[p1,p2]
 .show(x.1,x.2.1,parseNum (Lib.itoa n),x.2.2.2.1,())=_;rw[p2]
theorem afO{f:aS}(h:C9 f=true)(ha:f.2.2.2.2.1.length<=5)(x:aZ):
 kU x (pieces 32 (dX f))=((x.1,x.2.1++[f],x.2.2.1,x.2.2.2.1,()),true)/\Aw x (bf (dX f))=(x.1,x.2.1++[f],x.2.2.1,x.2.2.2.1,())/\(dX f).length<=600/\(∃ws:List Bytes,dX f=Lib.join ws [32]/\∀w∈ws,fine w):=by
 have hid:=(xZ.1 h).2.1;have hl:=(kF hid).2.2.2.2;obtain⟨b1,b2⟩:=ane h;have all:∀w∈jX::Lib.itoa f.1::jy f,fine w:=λw hw=>by
  rcases au3.1 hw with rfl|hw
  .exact⟨⟨by decide,by decide⟩,by decide⟩
  rcases au3.1 hw with rfl|hw
  .exact Jk hid
  .exact anb h w hw
 obtain⟨a,b,c⟩:=GV all (by rw[fO,fO];show 4+1+_<=600;omega) (by rw[auQ,auQ,b2];omega) (by simp);have e:dX f=Lib.join (jX::Lib.itoa f.1::jy f) [32]:=rfl;rw[e,a,b];refine⟨?_,?_,c,_,rfl,all⟩
 .show((x.1,x.2.1++[(jv ((Lib.itoa f.1,())::ls (jy f))).1],x.2.2.1,x.2.2.2.1,()),(jv ((Lib.itoa f.1,())::ls (jy f))).2)=_;rw[alJ h]
 .show(x.1,x.2.1++[Dp (parseNum (Lib.itoa f.1)) (ls (jy f))],x.2.2.1,x.2.2.2.1,())=_;rw[(rE hid).2,afK h]
theorem aiS{d:bD}(h1:aT d.1=true)(h2:ax d.2.1=true)(x:aZ):
 kU x (pieces 32 (ig d))=((x.1,x.2.1,x.2.2.1,x.2.2.2.1++[wB d],()),true)/\Aw x (bf (ig d))=(x.1,x.2.1,x.2.2.1,x.2.2.2.1++[wB d],())/\(ig d).length<=600/\(∃ws:List Bytes,ig d=Lib.join ws [32]/\∀w∈ws,fine w):=by
 obtain⟨t,hw,ho,hz,ht,hp,hq,_,_⟩:=GU h2;obtain⟨n1,n2⟩:=Dc t hw ho;obtain⟨x0,r0,ew,_⟩:=aiI t;have hl9:=(gy h2).2;have hv:=pU h1;have e:ig d=Lib.join (jw::d.1::aH t) [32]:=by unfold ig;rw[ht,ew,jD,jD]
 have all:∀w∈jw::d.1::aH t,fine w:=λw hw2=>by
  rcases au3.1 hw2 with rfl|hw2
  .exact⟨⟨by decide,by decide⟩,by decide⟩
  rcases au3.1 hw2 with rfl|hw2
  .exact uF h1
  .exact Ej t hw ho w hw2
 obtain⟨a,b,c⟩:=GV all (by rw[fO,fO];show 3+1+_<=600;omega) (by rw[auQ,auQ];omega) (by simp);have ej:gm ((ls (jw::d.1::aH t)).drop 2)=textOf d.2.1:=by rw[ht];show gm (ls (aH t))=_;unfold gm;rw[aiq]
 have hlen:2<((ls (jw::d.1::aH t)).length:Int):=by unfold ls;rw[au7,ew,auQ,auQ,auQ];omega
 rw[e,a,b];refine⟨?_,?_,c,_,rfl,all⟩
 .have:kU x (ls (jw::d.1::aH t))=bif decide (2<((ls (jw::d.1::aH t)).length:Int))then((x.1,x.2.1,x.2.2.1,x.2.2.2.1++[(d.1,fM (gm ((ls (jw::d.1::aH t)).drop 2)),())],()),gq (gm ((ls (jw::d.1::aH t)).drop 2)))else(x,false):=rfl
  rw[this,ej,au2 hlen,hp];rfl
 .have:Aw x (ls (jw::d.1::aH t))=(x.1,x.2.1,x.2.2.1,x.2.2.2.1++[(d.1,(bif decide (2<((ls (jw::d.1::aH t)).length:Int))then fM (gm ((ls (jw::d.1::aH t)).drop 2))else[]),())],()):=rfl;rw[this,ej,au2 hlen];rfl
theorem UE:∀(a:LS)(x:aZ)(b:LS),(gJ x a).2=true->gJ x (a++b)=gJ (gJ x a).1 b
 |[],_,_,_=>rfl
 |l::r,x,b,h=>by
  rw[avY,gJ,gJ];rw[gJ]at h;cases hr:(kU x (pieces 32 l.1)).2 with
  |true=>rw[hr]at h;exact UE r _ b h
  |false=>rw[hr]at h;cases h
theorem UF:∀(a:LS)(x:aZ)(b:LS),jf x (a++b)=jf (jf x a) b
 |[],_,_=>rfl
 |l::r,x,b=>by rw[avY,jf,jf];exact UF r _ b
theorem XC(a b:List Bytes):ls (a++b)=ls a++ls b:=by unfold ls;rw[avN]
theorem adu:∀(fs:List dR)(x:aZ),(∀f∈fs,dB f.1=true/\(f.2.1=1\/f.2.1=2))->gJ x (ls (fs.map bJ))=((x.1++fs,x.2.1,x.2.2.1,x.2.2.2.1,()),true)/\jf x (ls (fs.map bJ))=(x.1++fs,x.2.1,x.2.2.1,x.2.2.2.1,())
 |[],x,_=>by rw[avi];exact⟨rfl,rfl⟩
 |f::r,x,h=>by
  obtain⟨a,b⟩:=h f au0;obtain⟨h1,h2,_⟩:=adt a b x;obtain⟨i1,i2⟩:=adu r (x.1++[f],x.2.1,x.2.2.1,x.2.2.2.1,()) λg hg=>h g (auZ _ hg);refine⟨?_,?_⟩
  .show gJ x ((bJ f,())::ls (r.map bJ))=_;rw[gJ,h1];show gJ _ _=_;rw[i1,au4];rfl
  .show jf x ((bJ f,())::ls (r.map bJ))=_;rw[jf,h2,i2,au4];rfl
theorem afP:∀(fs:List aS)(x:aZ),(∀f∈fs,C9 f=true/\f.2.2.2.2.1.length<=5)->gJ x (ls (fs.map dX))=((x.1,x.2.1++fs,x.2.2.1,x.2.2.2.1,()),true)/\jf x (ls (fs.map dX))=(x.1,x.2.1++fs,x.2.2.1,x.2.2.2.1,())
 |[],x,_=>by rw[avi];exact⟨rfl,rfl⟩
 |f::r,x,h=>by
  obtain⟨a,b⟩:=h f au0;obtain⟨h1,h2,_⟩:=afO a b x;obtain⟨i1,i2⟩:=afP r (x.1,x.2.1++[f],x.2.2.1,x.2.2.2.1,()) λg hg=>h g (auZ _ hg);refine⟨?_,?_⟩
  .show gJ x ((dX f,())::ls (r.map dX))=_;rw[gJ,h1];show gJ _ _=_;rw[i1,au4];rfl
  .show jf x ((dX f,())::ls (r.map dX))=_;rw[jf,h2,i2,au4];rfl
theorem aiT:∀(ds:List bD)(x:aZ),(∀d∈ds,aT d.1=true/\ax d.2.1=true)->gJ x (ls (ds.map ig))=((x.1,x.2.1,x.2.2.1,x.2.2.2.1++ds.map wB,()),true)/\jf x (ls (ds.map ig))=(x.1,x.2.1,x.2.2.1,x.2.2.2.1++ds.map wB,())
 |[],x,_=>by rw[show([]:List bD).map wB=[]from rfl,avi];exact⟨rfl,rfl⟩
 |d::r,x,h=>by
  obtain⟨a,b⟩:=h d au0;obtain⟨h1,h2,_⟩:=aiS a b x;obtain⟨i1,i2⟩:=aiT r (x.1,x.2.1,x.2.2.1,x.2.2.2.1++[wB d],()) λg hg=>h g (auZ _ hg);refine⟨?_,?_⟩
  .show gJ x ((ig d,())::ls (r.map ig))=_;rw[gJ,h1];show gJ _ _=_;rw[i1,au4];rfl
  .show jf x ((ig d,())::ls (r.map ig))=_;rw[jf,h2,i2,au4];rfl
theorem xY{x:aZ}(h:bT x=true):(∀f∈x.1,dB f.1=true/\(f.2.1=1\/f.2.1=2))/\(∀f∈x.2.1,C9 f=true/\f.2.2.2.2.1.length<=5)/\fZ x.2.2.1=true/\(∀d∈x.2.2.2.1,aT d.1=true/\ax d.2.1=true)/\x.1.length<=5/\x.2.1.length<=12/\x.2.2.2.1.length<=5:=by
 unfold bT at h;rw[auO]at h;obtain⟨hs,hd⟩:=h;obtain⟨s1,_,s3,s4,s5,s6⟩:=Xe.1 hs;have s1:∀f∈x.2.1,dG x.1 f=true/\f.1<x.2.2.1:=s1;have s3:eF x.1=true:=s3;have s4:x.2.1.length<=12:=s4;have s5:1<=x.2.2.1:=s5;have s6:x.2.2.1<=61:=s6;obtain⟨d1,_,d3⟩:=KZ.1 (lU.1 hd).1;obtain⟨k1,k2⟩:=Xg.1 s3;have kf:∀f∈x.1,dB f.1=true/\(f.2.1=1\/f.2.1=2):=λf hf=>by obtain⟨i,hi,e⟩:=av9 hf;have:=k1 i hi;unfold jC fieldAt at this;rw[auS,auX hi,e]at this;simp only[axg,auO,avW,avj,au1]at this;exact⟨this.1.1,by omega⟩
 refine⟨kf,λf hf=>?_,lS.2 (by omega),d1,k2,s4,d3⟩;obtain⟨f1,_⟩:=s1 f hf;have fa:=Xf f1;have hl:=aia fa;refine⟨xZ.2 ⟨λa ha=>?_,?_⟩,by omega⟩
 .have hm:=(PD.1 fa).1 a ha;unfold iK at hm;simp only[auO,awt,au1,avt]at hm;obtain⟨⟨m1,m2⟩,m3⟩:=hm;have hk:=Uu (fs:=x.1) (s:=a.1) (by rw[← m3];exact m2);obtain⟨f',hf',e⟩:=av1.1 hk;exact GR.2 ⟨by rw[← e];exact(kf f' hf').1,m1,m2⟩
 .unfold dG at f1;simp only[auO,au1]at f1;refine⟨lS.2 ?_,lS.2 ?_,lS.2 ?_⟩<;>omega
theorem Yo{x:aZ}(h:bT x=true):gJ cZ (ls (yC x))=(norm x,true)/\jf cZ (ls (yC x))=norm x:=by
 obtain⟨p1,p2,p3,p4,_⟩:=xY h;obtain⟨fs,gs,n,ds,⟨⟩⟩:=x;obtain⟨a1,a2⟩:=adu fs cZ p1;obtain⟨b1,b2,_⟩:=afN p3 (([]:List dR)++fs,[],0,[],());obtain⟨c1,c2⟩:=afP gs (([]:List dR)++fs,[],n,[],()) p2;obtain⟨d1,d2⟩:=aiT ds (([]:List dR)++fs,([]:List aS)++gs,n,[],()) p4;have e:ls (yC (fs,gs,n,ds,()))=ls (fs.map bJ)++((iC n,())::(ls (gs.map dX)++ls (ds.map ig))):=by unfold yC;rw[XC];show _++((iC n,())::ls (gs.map dX++ds.map ig))=_;rw[XC]
 rw[e];constructor
 .rw[UE _ _ _ (by rw[a1]),a1,gJ];have b1':kU (([]:List dR)++fs,[],0,[],()) (pieces 32 (iC n))=_:=b1;show(bif (kU (([]:List dR)++fs,[],0,[],()) (pieces 32 (iC n))).2 then gJ (kU (([]:List dR)++fs,[],0,[],()) (pieces 32 (iC n))).1 _ else _)=_;rw[b1'];show gJ (([]:List dR)++fs,[],n,[],()) _=_;rw[UE _ _ _ (by rw[c1]),c1];exact d1
 .rw[UF,a2,jf];have b2':Aw (([]:List dR)++fs,[],0,[],()) (bf (iC n))=_:=b2;show jf (Aw (([]:List dR)++fs,[],0,[],()) (bf (iC n))) _=_;rw[b2',UF];show jf (jf (([]:List dR)++fs,[],n,[],()) _) _=_;rw[c2];exact d2
theorem ajB{d:List bD}(h:ny d=true):ny (d.map wB)=true:=by
 obtain⟨h1,h2,h3⟩:=KZ.1 h;refine KZ.2 ⟨λx hx=>?_,?_,by rw[au7];exact h3⟩
 .obtain⟨y,hy,rfl⟩:=av1.1 hx;obtain⟨t,_,_,_,_,_,ep,hq,_⟩:=GU (h1 y hy).2;refine⟨(h1 y hy).1,?_⟩;show ax (fM (textOf y.2.1))=true;rw[ep];exact hq
 .rw[axU];exact h2
theorem XW(s:Bytes):∀(d:List bD)(k:Int),uS k (d.map wB) s=uS k d s
 |[],_=>rfl
 |x::r,k=>by rw[au8,uS,uS,XW s r];show(bif x.1==s then k else _)=_;rfl
theorem alM{d:List bD}{i:Nat}(hi:i<d.length):dm (d.map wB) i=wB (dm d i):=by unfold dm;rw[auS,auS,avK,auX hi];rfl
theorem alN{d:List bD}(h:ny d=true)(e:Nat×Nat×Nat):e∈dn (d.map wB)↔e∈dn d:=by
 obtain⟨h1,_,_⟩:=KZ.1 h;unfold dn;rw[axy,axy,au7];refine exists_congr λi=>awu λhi=>?_;have hi:=avD.1 hi;obtain⟨t,_,_,_,_,_,ep,hq,ath⟩:=GU (h1 _ (akm hi)).2;have eq:(dm (d.map wB) i).2.1=post t 0:=by rw[alM hi];exact ep
 have pl:∀s,aC (d.map wB) s=aC d s:=λs=>XW s d 0;rw[eq,avf,avf];have one:∀(b:Bool)(k:Nat),(e∈(dU (post t 0) b).filterMap λs=>bif decide (0<=aC (d.map wB) s)then some (i,(aC (d.map wB) s).toNat,k)else none)↔
  e∈(dU (dm d i).2.1 b).filterMap λs=>bif decide (0<=aC d s)then some (i,(aC d s).toNat,k)else none:=λb k=>by
  rw[awD,awD];refine exists_congr λs=>?_;rw[ath s b,pl s]
 rw[one false 0,one true 1]
theorem alO{d:List bD}(h:dH d=true):dH (d.map wB)=true:=by obtain⟨h1,L,h2⟩:=lU.1 h;exact lU.2 ⟨ajB h1,L,λe he=>h2 e ((alN h1 e).1 he)⟩
theorem PU{x:aZ}(h:bT x=true):bT (norm x)=true:=by unfold bT at h ⊢;rw[auO]at h ⊢;exact⟨h.1,alO h.2⟩
theorem afQ{x:aZ}(h:bT x=true):yC (norm x)=yC x:=by
 obtain⟨_,_,_,p4,_⟩:=xY h;unfold yC norm;dsimp only;have:(x.2.2.2.1.map wB).map ig=x.2.2.2.1.map ig:=by rw[awh];refine awv λd hd=>?_;obtain⟨t,hw,_,_,et,_,ep,hq,_⟩:=GU (p4 d hd).2;show jw++32::(d.1++32::textOf (fM (textOf d.2.1)))=_;rw[ep,(afI hw hq).1,← et];rfl
 rw[this]
theorem Bc{x:aZ}(h:bT x=true):enc x=ls (yC x):=by unfold enc;rw[h];rfl
theorem Xd{x:aZ}(h:bT x=false):enc x=[]:=by unfold enc;rw[h];rfl
theorem an8{x:aZ}(h:bT x=true):enc (norm x)=enc x:=by rw[Bc h,Bc (PU h),afQ h]
theorem alk{x:aZ}(h:bT x=true):dec (enc x)=(norm x,true):=by unfold dec;rw[Bc h,(Yo h).2,PU h,Bc (PU h),afQ h,au2 rfl];rfl
theorem ah9{l:LS}(h:(dec l).2=true):bT (dec l).1=true/\enc (dec l).1=l/\norm (dec l).1=(dec l).1:=by
 unfold dec at h ⊢;cases hc:bT (jf cZ l)&&decide (enc (jf cZ l)=l)with
 |false=>rw[hc]at h;cases h
 |true=>rw[auO,au1]at hc;refine⟨hc.1,hc.2,?_⟩;show norm (jf cZ l)=jf cZ l;have:=(Yo hc.1).2;rw[← Bc hc.1,hc.2]at this;exact this.symm
theorem aoy{l:LS}(h:(dec l).2=false):dec l=(cZ,false):=by
 unfold dec at h ⊢;cases hc:bT (jf cZ l)&&decide (enc (jf cZ l)=l)with
 |false=>rfl
 |true=>rw[hc]at h;cases h
theorem aaL(l:LS):ahY l=dec l:=by
 unfold ahY dec;cases h1:(gJ cZ l).2&&(bT (gJ cZ l).1&&decide (enc (gJ cZ l).1=l))with
 |true=>
  rw[auO,auO,au1]at h1;obtain⟨a,b,c⟩:=h1;obtain⟨e1,e2⟩:=Yo b;rw[← Bc b,c]at e1 e2;have e3:jf cZ l=(gJ cZ l).1:=by rw[e2,show norm (gJ cZ l).1=(gJ cZ l).1 from(congrArg (·.1) e1).symm]
  rw[e3,b,c,au2 rfl];rfl
 |false=>
  cases h2:bT (jf cZ l)&&decide (enc (jf cZ l)=l)with
  |false=>rfl
  |true=>
   rw[auO,au1]at h2;obtain⟨b,c⟩:=h2;obtain⟨e1,e2⟩:=Yo b;rw[← Bc b,c]at e1 e2;have e3:(gJ cZ l).1=jf cZ l:=by rw[e1];exact e2.symm
   rw[e3,e1,b,c,au2 rfl]at h1;cases h1
end Sp
namespace Sp
open Go
def sumOf(s:Bytes):Int:=s.foldl (λn b=>(33*n+(b.toNat:Int)).tmod 65521) 3
def linesT(ws:List Bytes):Bytes:=(ws.map (· ++[10])).flatten
def aiU(n:Int)(x:aZ):Bytes:=linesT (Lib.itoa n::yC x)
noncomputable def slot (n:Int) (x:aZ):Bytes:=bif bT x&&(decide (1<=n)&&decide (n<=1000000000))then aiU n x++(Lib.itoa (sumOf (aiU n x))++[46])else[]
def qH(l:LS):Prop:=l.length<=100/\∀x∈l,x.1.length<=1000
def qO(s:Bytes):Prop:=∀b∈s,b≠46
theorem Nu{n:Int}(h:fZ n=true):qO (Lib.itoa n):=λb hb e=>by have:=(kF h).2.2.1 b hb;rw[e]at this;exact absurd this.1 (by decide)
theorem yg{s:Bytes}(h:aT s=true):qO s:=λb hb e=>by unfold aT lower at h;rw[auO,auO,au9]at h;have:=h.1.1 b hb;rw[e]at this;exact absurd this (by decide)
theorem Jq(op:Int):qO (fU op):=by unfold fU;cases op==1<;>cases op==2<;>cases op==3<;>cases op==4<;>cases op==5<;>cases op==6<;>cases op==7<;>cases op==8<;>cases op==9<;>(intro b hb;revert b;decide)
theorem aeV{v:CZ}(h:bF v.1 v.2.1 v.2.2.1=true)(h0:v.1≠0):qO (bn v):=by
 rcases alE h h0 with⟨n,rfl,h1,h2⟩|⟨s,rfl,hs⟩
 .have:bn (1,n,[],())=Lib.itoa n:=by unfold bn;rw[h];rfl
  rw[this];exact Nu (lS.2 (by omega))
 .have:bn (2,0,s,())=s:=by unfold bn;rw[h];rfl
  rw[this];exact yg hs
theorem Io:∀ws:List Bytes,(∀w∈ws,qO w)->qO (Lib.join ws [32])
 |[],_=>λb hb=>by cases hb
 |x::r,h=>by
  intro b hb;rw[Lib.join_cons]at hb;rcases avf.1 hb with hb|hb
  .exact h x au0 b hb
  .have tail:∀r:List Bytes,(∀w∈r,qO w)->qO (Lib.joinTail [32] r):=by
    intro r
    induction r with
    |nil=>intro _ b hb;cases hb
    |cons y t ih=>
     intro h b hb;rw[Lib.joinTail]at hb;rcases avf.1 hb with hb|hb
     .rcases avf.1 hb with hb|hb
      .rw[avg.1 hb];decide
      .exact h y au0 b hb
     .exact ih (λw hw=>h w (auZ _ hw)) b hb
   exact tail r (λw hw=>h w (auZ _ hw)) b hb
theorem afR:∀as:List aW,(∀a∈as,Jl a=true)->∀w∈dV as,qO w
 |[],_,w,hw=>by cases hw
 |a::r,h,w,hw=>by
  obtain⟨a1,a2,a3⟩:=GR.1 (h a au0);rcases au3.1 hw with rfl|hw
  .exact yg (kQ a1)
  rcases au3.1 hw with rfl|hw
  .exact aeV a2 a3
  .exact afR r (λb hb=>h b (auZ _ hb)) w hw
theorem alP{n:ak}(h:dO n 0=true)(hw:n.1=1\/n.1=2\/n.1=3\/n.1=4\/n.1=8\/n.1=9):∀w∈jA n,qO w:=by
 obtain⟨op,l,r,s,v⟩:=n;unfold dO at h;rcases hw with rfl|rfl|rfl|rfl|rfl|rfl<;>simp at h<;>intro w hw2
 .rw[avg.1 hw2];exact Jq 1
 .rcases au3.1 hw2 with rfl|hw2
  .exact Jq 2
  .rw[avg.1 hw2];exact yg (kQ h.2)
 .rcases au3.1 hw2 with rfl|hw2
  .exact Jq 3
  rcases au3.1 hw2 with rfl|hw2
  .exact yg (kQ h.1.1.2)
  .rw[avg.1 hw2];exact aeV h.1.2 h.2
 .rcases au3.1 hw2 with rfl|hw2
  .exact Jq 4
  rcases au3.1 hw2 with rfl|hw2
  .exact yg (kQ h.1.1.2)
  .rw[avg.1 hw2];exact aeV h.1.2 (by rw[h.2];decide)
 .rcases au3.1 hw2 with rfl|hw2
  .exact Jq 8
  .rw[avg.1 hw2];exact yg h.2
 .rcases au3.1 hw2 with rfl|hw2
  .exact Jq 9
  .rw[avg.1 hw2];exact yg h.2
theorem OU:∀t:QT,x9 t->zL t->∀w∈aH t,qO w
 |.leaf n,hw,ho,w,h=>alP ho hw w h
 |.neg t,hw,ho,w,h=>by
  rcases au3.1 h with rfl|h
  .exact Jq 5
  .exact OU t hw ho w h
 |.two op a b,⟨_,w1,w2⟩,⟨o1,o2⟩,w,h=>by
  rcases au3.1 h with rfl|h
  .exact Jq op
  rcases avf.1 h with h|h
  .exact OU a w1 o1 w h
  .exact OU b w2 o2 w h
theorem FH{s:Bytes}(h:s.all (λb=>b !=46)=true):qO s:=λb hb e=>by have:=au9.1 h b hb;rw[e]at this;exact absurd this (by decide)
def aqT(l:Bytes):Prop:=l.length<=600/\(∀b∈l,b≠10)/\qO l
theorem agR{ws:List Bytes}(h:∀w∈ws,fine w):∀b∈Lib.join ws [32],b≠10:=λb hb e=>by have:=au9.1 (akl ws λw hw=>(h w hw).2) b hb;rw[e]at this;exact absurd this (by decide)
theorem afF{x:aZ}(h:bT x=true):(∀l∈yC x,aqT l)/\(yC x).length<=23:=by
 obtain⟨p1,p2,p3,p4,p5,p6,p7⟩:=xY h;refine⟨λl hl=>?_,?_⟩
 .unfold yC at hl;rcases avf.1 hl with hl|hl
  .obtain⟨f,hf,rfl⟩:=av1.1 hl;obtain⟨k1,k2⟩:=p1 f hf;obtain⟨_,_,c,ws,e,hw⟩:=adt k1 k2 x;refine⟨c,by rw[e];exact agR hw,?_⟩;unfold bJ;rw[k1];have d1:=yg (kQ k1);rcases k2 with k|k<;>rw[k]
   .show qO (gV++32::(f.1++32::Gt));rw[XV];refine Io _ λw hw=>?_;rcases au3.1 hw with rfl|hw
    .exact FH rfl
    rcases au3.1 hw with rfl|hw
    .exact d1
    .rw[avg.1 hw];exact FH rfl
   .show qO (gV++32::(f.1++32::sV));rw[XV];refine Io _ λw hw=>?_;rcases au3.1 hw with rfl|hw
    .exact FH rfl
    rcases au3.1 hw with rfl|hw
    .exact d1
    .rw[avg.1 hw];exact FH rfl
  rcases au3.1 hl with rfl|hl
  .obtain⟨_,_,c,ws,e,hw⟩:=afN p3 x;refine⟨c,by rw[e];exact agR hw,?_⟩;unfold iC;rw[← TN];refine Io _ λw hw=>?_;rcases au3.1 hw with rfl|hw
   .exact FH rfl
   .rw[avg.1 hw];exact Nu p3
  rcases avf.1 hl with hl|hl
  .obtain⟨f,hf,rfl⟩:=av1.1 hl;obtain⟨k1,k2⟩:=p2 f hf;obtain⟨_,_,c,ws,e,hw⟩:=afO k1 k2 x;refine⟨c,by rw[e];exact agR hw,?_⟩;obtain⟨v1,v2,v3,v4⟩:=xZ.1 k1;refine Io _ λw hw=>?_;rcases au3.1 hw with rfl|hw
   .exact FH rfl
   rcases au3.1 hw with rfl|hw
   .exact Nu v2
   rcases au3.1 hw with rfl|hw
   .exact Nu v3
   rcases au3.1 hw with rfl|hw
   .cases f.2.2.1<;>exact FH rfl
   rcases au3.1 hw with rfl|hw
   .exact Nu v4
   .exact afR _ v1 w hw
  .obtain⟨d,hd,rfl⟩:=av1.1 hl;obtain⟨k1,k2⟩:=p4 d hd;obtain⟨_,_,c,ws,e,hw⟩:=aiS k1 k2 x;refine⟨c,by rw[e];exact agR hw,?_⟩;obtain⟨t,hwf,hot,_,ht,_⟩:=GU k2;unfold ig;rw[ht,XV];refine Io _ λw hw=>?_;rcases au3.1 hw with rfl|hw
   .exact FH rfl
   rcases au3.1 hw with rfl|hw
   .exact yg k1
   .rw[avg.1 hw];exact Io _ (OU t hwf hot)
 .unfold yC;rw[auN,auQ,auN,au7,au7,au7];omega
def kept(keep:Int)(n:Nat):Nat:=(max 0 (min keep (n:Int))).toNat
end Sp
namespace Go.Fw
open Go
theorem eqL{α β:Type}(e:α->α->Bool)(he:∀x y,e x y=false↔x=y)(d:α)(a b:List α)[Decidable (a=b)](t:β)(hlen:a.length<=maxLen){K:Bool×Unit->Prop}(hK:K (decide (a=b),())):
 bif ((a.length:Int)) !=(b.length:Int)then K (false,())else
 ∃(I:(Int×Unit)×Unit->Prop),∃(μ:(Int×Unit)×Unit->Nat),I (((0:Int),()),())/\∀(y:(Int×Unit)×Unit),I y->
  bif decide (y.fst.fst<(a.length:Int))then
   ((0:Int)<=y.fst.fst/\y.fst.fst<(a.length:Int))/\((0:Int)<=y.fst.fst/\y.fst.fst<(b.length:Int))/\
     (bif e (a.getD (Int.toNat y.fst.fst) d) (b.getD (Int.toNat y.fst.fst) d)then K (false,())
     else t=t/\I ((IntKind.i64.wrap (y.fst.fst+(1:Int)),()),())/\μ ((IntKind.i64.wrap (y.fst.fst+(1:Int)),()),())<μ y)
  else K (true,()):=by
 rw[maxLen_eq]at hlen;refine af (λh=>?_) λh=>?_
 .have h:(a.length:Int)≠b.length:=by simpa using h
  rw[au6 λe=>h (by rw[e])]at hK;exact hK
 .have h:(a.length:Int)=b.length:=by simpa using h
  exact Fj e he d a b t hlen (by omega) (λe=>by rw[au6 e]at hK;exact hK) λe=>by rw[au2 e]at hK;exact hK
theorem aqx{α β:Type}(e:α->α->Bool)(he:∀x y,e x y=false↔x=y)(d:α)(a b:List α)[Decidable (a=b)](t:β)(hlen:a.length<=maxLen){K:Bool×Unit->Prop}(hK:K (decide (a=b),())):
 bif ((a.length:Int)) !=(b.length:Int)then K (false,())else
 ∃(I:(Int×Unit)×Unit->Prop),∃(μ:(Int×Unit)×Unit->Nat),I (((0:Int),()),())/\∀(y:(Int×Unit)×Unit),I y->
  bif decide (y.fst.fst<(a.length:Int))then
   ((0:Int)<=y.fst.fst/\y.fst.fst<(a.length:Int))/\((0:Int)<=y.fst.fst/\y.fst.fst<(b.length:Int))/\True/\
     (bif e (a.getD (Int.toNat y.fst.fst) d) (b.getD (Int.toNat y.fst.fst) d)then K (false,())
     else t=t/\I ((IntKind.i64.wrap (y.fst.fst+(1:Int)),()),())/\μ ((IntKind.i64.wrap (y.fst.fst+(1:Int)),()),())<μ y)
  else K (true,()):=by
 rw[maxLen_eq]at hlen;refine af (λh=>?_) λh=>?_
 .have h:(a.length:Int)≠b.length:=by simpa using h
  rw[au6 λe=>h (by rw[e])]at hK;exact hK
 .have h:(a.length:Int)=b.length:=by simpa using h
  exact aaz e he d a b t hlen (by omega) (λe=>by rw[au6 e]at hK;exact hK) λe=>by rw[au2 e]at hK;exact hK
end Go.Fw
namespace Sp
open Go
theorem adv(s:Bytes):(aV s).1.2.2.1.length<=s.length:=by
 unfold aV;cases aY s with
 |true=>cases decide (parseNum s<=999)<;>exact avc _
 |false=>
  cases s==[45]with
  |true=>exact avc _
  |false=>cases aT s with
   |true=>exact auT _
   |false=>exact avc _
theorem Rn(m:Nat):∀w:LS,(∀x∈w,x.1.length<=m)->2*(iM w).length<=w.length+1/\∀a∈iM w,a.1.length<=m/\a.2.2.2.1.length<=m
 |[],_=>⟨avc _,λa ha=>by cases ha⟩
 |[x],h=>⟨auT _,λa ha=>by
  rw[iM,avg]at ha;subst ha;exact⟨h x au0,auU (adv []) (avc _)⟩⟩
 |x::y::r,h=>by
  obtain⟨h1,h2⟩:=Rn m r λz hz=>h z (auZ _ (auZ _ hz));refine⟨by show 2*((iM r).length+1)<=r.length+1+1+1;omega,λa ha=>?_⟩;rw[iM]at ha;rcases au3.1 ha with rfl|ha
  .exact⟨h x au0,auU (adv y.1) (h y (auZ _ au0))⟩
  .exact h2 a ha
theorem adw(s:Bytes):(fM s).length<=9:=by
 cases h:gq s with
 |true=>exact(gy (TT h).2.2).2
 |false=>unfold fM;rw[h];exact avc _
end Sp
namespace Sp
open Go
theorem am1(l:List Bytes):(ls l).length=l.length:=by unfold ls;rw[au7]
theorem apA{x:aZ}:qH (enc x):=by
 cases h:bT x with
 |false=>rw[Xd h];exact⟨by decide,λy hy=>by cases hy⟩
 |true=>obtain⟨e1,e2⟩:=afF h;rw[Bc h];refine⟨by rw[am1];omega,λy hy=>?_⟩;obtain⟨w,hw,rfl⟩:=av1.1 hy;have:=(e1 w hw).1;show w.length<=1000;omega
theorem abb{x:aZ}(h:bT x=true):fB x:=by obtain⟨p1,p2,p3,p4,p5,p6,p7⟩:=xY h;refine⟨⟨auU p5 (by decide),auU p6 (by decide),λf hf=>auU (p2 f hf).2 (by decide)⟩,auU p7 (by decide),λd hd=>auU (gy (p4 d hd).2).2 (by decide)⟩
theorem alQ:fB cZ:=⟨⟨by decide,by decide,λf hf=>by cases hf⟩,by decide,λd hd=>by cases hd⟩
theorem afw(l:LS):fB (dec l).1:=by
 cases h:(dec l).2 with
 |false=>rw[aoy h];exact alQ
 |true=>exact abb (ah9 h).1
def UY(n:Nat)(x:aZ):Prop:=x.1.length<=n/\x.2.1.length<=n/\(∀f∈x.2.1,f.2.2.2.2.1.length<=1000)/\x.2.2.2.1.length<=n/\∀d∈x.2.2.2.1,d.2.1.length<=1000
theorem afv{n:Nat}{x:aZ}(h:UY n x)(hn:n<=1000):fB x:=⟨⟨auU h.1 hn,auU h.2.1 hn,h.2.2.1⟩,auU h.2.2.2.1 hn,h.2.2.2.2⟩
theorem afS{id:Int}{r:LS}(h:r.length<=1001)(hx:∀x∈r,x.1.length<=1000):(Dp id r).2.2.2.2.1.length<=1000:=by have:=(Rn 1000 (r.drop 3) λx hm=>hx x (av8 hm)).1;rw[avl]at this;show(iM (r.drop 3)).length<=1000;omega
theorem ank{w:LS}(h:w.length<=1001)(hx:∀x∈w,x.1.length<=1000):(jv w).1.2.2.2.2.1.length<=1000:=by
 unfold jv;cases decide ((w.length:Int)<4)||!(w.length%2==0)with
 |true=>exact avc _
 |false=>exact afS (by rw[avl];omega) λx hm=>hx x (av8 hm)
theorem Yp{α:Type}{p:α->Prop}{l:List α}{a:α}(h:∀x∈l,p x)(ha:p a):∀x∈l++[a],p x:=λx hx=>by
 rcases avf.1 hx with hx|hx
 .exact h x hx
 .rw[avg.1 hx];exact ha
theorem Lp{α:Type}{l:List α}{a:α}{n:Nat}(h:l.length<=n):(l++[a]).length<=n+1:=by rw[auN];exact Nat.succ_le_succ h
theorem amI{n:Nat}{x:aZ}{w:LS}(h:UY n x)(hw:w.length<=1001)(hx:∀y∈w,y.1.length<=1000):UY (n+1) (kU x w).1:=by
 obtain⟨h1,h2,h3,h4,h5⟩:=h;unfold kU;cases wordAt w 0==gV&&decide ((w.length:Int)=3)with
 |true=>exact⟨Lp h1,avv h2,h3,avv h4,h5⟩
 |false=>
 cases wordAt w 0==qA&&decide ((w.length:Int)=2)with
 |true=>exact⟨avv h1,avv h2,h3,avv h4,h5⟩
 |false=>
 cases wordAt w 0==jX with
 |true=>exact⟨avv h1,Lp h2,Yp h3 (ank (by rw[avl];omega) λy hy=>hx y (av8 hy)),avv h4,h5⟩
 |false=>
 cases wordAt w 0==jw&&decide (2<(w.length:Int))with
 |true=>exact⟨avv h1,avv h2,h3,Lp h4,Yp h5 (auU (adw _) (by decide))⟩
 |false=>exact⟨avv h1,avv h2,h3,avv h4,h5⟩
theorem amP{n:Nat}{x:aZ}{w:LS}(h:UY n x)(hw:w.length<=1001)(hx:∀y∈w,y.1.length<=1000):UY (n+1) (Aw x w):=by
 obtain⟨h1,h2,h3,h4,h5⟩:=h;unfold Aw;cases wordAt w 0==gV with
 |true=>exact⟨Lp h1,avv h2,h3,avv h4,h5⟩
 |false=>
 cases wordAt w 0==qA with
 |true=>exact⟨avv h1,avv h2,h3,avv h4,h5⟩
 |false=>
 cases wordAt w 0==jX with
 |true=>exact⟨avv h1,Lp h2,Yp h3 (afS (by rw[avl];omega) λy hy=>hx y (av8 hy)),avv h4,h5⟩
 |false=>
 cases wordAt w 0==jw with
 |true=>
  refine⟨avv h1,avv h2,h3,Lp h4,Yp h5 ?_⟩;cases decide (2<(w.length:Int))with
  |true=>exact auU (adw _) (by decide)
  |false=>exact avc _
 |false=>exact⟨avv h1,avv h2,h3,avv h4,h5⟩
theorem ahZ:UY 0 cZ:=⟨auT _,auT _,λf hf=>(by cases hf),auT _,λd hd=>(by cases hd)⟩
theorem amH{l:LS}{n:Nat}(hn:n<l.length)(h:(gJ cZ (l.take n)).2=true):gJ cZ (l.take (n+1))=kU (gJ cZ (l.take n)).1 (pieces 32 (l.getD n ([],())).1):=by
 have e:l.take (n+1)=l.take n++[l.getD n ([],())]:=by rw[awf hn,auS,auX hn];rfl
 rw[e,UE _ _ _ h,gJ];cases hr:(kU (gJ cZ (l.take n)).1 (pieces 32 (l.getD n ([],())).1)).2 with
 |true=>exact ax2 rfl hr.symm
 |false=>exact ax2 rfl hr.symm
theorem afT:∀(a:LS)(x:aZ)(b:LS),(gJ x a).2=false->(gJ x (a++b)).2=false
 |[],_,_,h=>by cases h
 |l::r,x,b,h=>by
  rw[avY,gJ];rw[gJ]at h;cases hr:(kU x (pieces 32 l.1)).2 with
  |true=>rw[hr]at h;exact afT r _ b h
  |false=>rfl
theorem anP{l:LS}{n:Nat}(h:(gJ cZ (l.take n)).2=false):dec l=(cZ,false):=by have:=afT (l.take n) cZ (l.drop n) h;rw[awy]at this;rw[← aaL];unfold ahY;rw[this];rfl
theorem amO{l:LS}{n:Nat}(hn:n<l.length):jf cZ (l.take (n+1))=Aw (jf cZ (l.take n)) (bf (l.getD n ([],())).1):=by
 have e:l.take (n+1)=l.take n++[l.getD n ([],())]:=by rw[awf hn,auS,auX hn];rfl
 rw[e,UF];rfl
theorem ajr(x:aZ)(y k:Bytes):kU x [(gV,()),(y,()),(k,())]=((x.1++[(y,(bif k==sV then 2 else 1),())],x.2.1,x.2.2.1,x.2.2.2.1,()),true):=rfl
theorem alx(x:aZ)(y:Bytes):kU x [(qA,()),(y,())]=((x.1,x.2.1,parseNum y,x.2.2.2.1,()),aY y):=rfl
theorem aly(x:aZ)(r:LS):kU x ((jX,())::r)=((x.1,x.2.1++[(jv r).1],x.2.2.1,x.2.2.2.1,()),(jv r).2):=rfl
theorem am5(x:aZ)(y:Bytes)(r:LS)(hr:0<r.length):kU x ((jw,())::(y,())::r)=((x.1,x.2.1,x.2.2.1,x.2.2.2.1++[(y,fM (gm r),())],()),gq (gm r)):=by
 have e:kU x ((jw,())::(y,())::r)=bif decide (2<((((jw,())::(y,())::r:LS).length:Nat):Int))then((x.1,x.2.1,x.2.2.1,x.2.2.2.1++[(y,fM (gm r),())],()),gq (gm r))else(x,false):=rfl
 rw[e,au2 (by rw[auQ,auQ];omega)];rfl
theorem alz(x:aZ)(x0:Bytes)(r:LS)(h1:¬(x0=gV/\r.length=2))(h2:¬(x0=qA/\r.length=1))(h3:¬x0=jX)(h4:¬(x0=jw/\2<=r.length)):kU x ((x0,())::r)=(x,false):=by
 unfold kU;have e0:wordAt ((x0,())::r) 0=x0:=eP _ _;rw[e0,auQ];have f1:(x0==gV&&decide (((r.length+1:Nat):Int)=3))=false:=by
  rw[awT,auP,avt];by_cases e:x0=gV
  .exact .inr λg=>h1 ⟨e,by omega⟩
  .exact .inl e
 have f2:(x0==qA&&decide (((r.length+1:Nat):Int)=2))=false:=by
  rw[awT,auP,avt];by_cases e:x0=qA
  .exact .inr λg=>h2 ⟨e,by omega⟩
  .exact .inl e
 have f3:(x0==jX)=false:=auP.2 h3;have f4:(x0==jw&&decide (2<((r.length+1:Nat):Int)))=false:=by
  rw[awT,auP,avt];by_cases e:x0=jw
  .exact .inr λg=>h4 ⟨e,by omega⟩
  .exact .inl e
 rw[f1,f2,f3,f4];rfl
end Sp
namespace Sp
open Go
end Sp
