import Derived.Test.YtgbobfdlafkijaaGreatFwA
import Derived.Lib.ItoaNum
import Derived.Lib.ItoaLen
import Derived.Lib.Join
import Derived.Test.YtgbobfdlafkijaaGreatFwC
namespace Sp
open Go
abbrev Bytes:=List UInt8
abbrev LI:=List (Int×Unit)
abbrev LS:=List (Bytes×Unit)
theorem take_succ' {α:Type} (a:List α) (n:Nat) (d:α) (h:n<a.length):a.take (n+1)=a.take n++[a.getD n d]:=by
 rw [List.take_succ_eq_append_getElem h,List.getD_eq_getElem?_getD,List.getElem?_eq_getElem h];rfl
def ahR (l:LI):Prop:=∀ x∈l,-9223372036854775808≤x.1∧x.1≤9223372036854775807
theorem ahR.take {a:LI} (h:ahR a) (n:Nat):ahR (a.take n):=fun x hx=>h x (List.mem_of_mem_take hx)
theorem ahR.get {a:LI} (h:ahR a) {n:Nat} (hn:n<a.length) (d:Int×Unit):(Lib.itoa (a.getD n d).1).length≤21:=by
 have:a.getD n d∈a:=by rw [List.getD_eq_getElem?_getD,List.getElem?_eq_getElem hn,Option.getD_some];exact List.getElem_mem hn
 exact Lib.itoa_length_le _ (h _ this).1 (h _ this).2
end Sp
namespace Sp
open Go
set_option synthInstance.maxSize 100000
set_option synthInstance.maxHeartbeats 1000000
abbrev arH:=Int×Int×Bytes×Unit
abbrev iy:=Bytes×Int×Int×Bytes×Unit
abbrev iC:=Int×Int×Int×Bytes×Int×Int×Bytes×Unit
abbrev gY:=Int×Int×Bool×Int×List iy×Unit
abbrev eY:=Bytes×List iC×Unit
abbrev ajH:=Int×Int×Int×Bool×Int×List iy×Int×Bytes×List iC×Unit
instance:DecidableEq arH:=inferInstance
instance:DecidableEq iy:=inferInstance
instance:DecidableEq iC:=inferInstance
instance:DecidableEq gY:=inferInstance
instance:DecidableEq eY:=inferInstance
instance:DecidableEq (Int×eY):=inferInstance
instance:DecidableEq (List iy×Int×eY):=inferInstance
instance:DecidableEq (Bool×Int×List iy×Int×eY):=inferInstance
instance atc:DecidableEq ajH:=(inferInstance:DecidableEq (Int×Int×Int×Bool×Int×List iy×Int×eY))
instance:DecidableEq (List ajH):=inferInstance
instance:DecidableEq (List ajH×Bytes×Int×Unit):=inferInstance
def lower (s:Bytes):Bool:=s.all fun c=>decide (97≤c.toNat)&&decide (c.toNat≤122)
def gG (s:Bytes):Bool:=lower s&&decide (1≤(s.length:Int))&&decide ((s.length:Int)≤6)
def arI (n:Int):Bool:=decide (0≤n)&&decide (n≤1000000000)
def idxFrom:Int→LI→Int
 |_,[]=>-1
 |k,x::r=>if arI x.1 then idxFrom (k+1) r else k
def idxOf (l:LI):Int:=idxFrom 0 l
end Sp
namespace Sp
open Go
abbrev jM:=Bytes×Int×Unit
abbrev iT:=List jM×List gY×Int×Unit
instance:DecidableEq jM:=inferInstance
instance:DecidableEq (List jM):=inferInstance
instance:DecidableEq (List gY):=inferInstance
instance:DecidableEq (List gY×Int×Unit):=inferInstance
instance atI:DecidableEq iT:=(inferInstance:DecidableEq (List jM×List gY×Int×Unit))
def usual:List jM:=[([97],1,()),([98],1,()),([110],2,()),([116],2,())]
def jR (f:gY):Prop:=f.2.2.2.2.1.length≤1000
def iE (s:iT):Prop:=s.1.length≤1000∧s.2.1.length≤1000∧∀ f∈s.2.1,jR f
def lN (n:Nat) (f:Nat→Bool):Bool:=(List.range n).all f
def ji (s:Bytes):Bool:=lower s&&decide (1≤(s.length:Int))&&decide ((s.length:Int)≤1)
def jm (k n:Int) (s:Bytes):Bool:=
 bif decide (k=0) then decide (n=0)&&decide (s=[])
 else bif decide (k=1) then decide (0≤n)&&decide (n≤999)&&decide (s=[])
 else bif decide (k=2) then gG s&&decide (n=0)
 else false
def kindOf:List jM→Bytes→Int
 |[],_=>0
 |f::r,s=>bif decide (f.1=s) then f.2.1 else kindOf r s
def fieldAt (fs:List jM) (i:Nat):jM:=fs.getD i ([],0,())
def kP (fs:List jM) (i:Nat):Bool:=
 ji (fieldAt fs i).1&&(decide (1≤(fieldAt fs i).2.1)&&decide ((fieldAt fs i).2.1≤2))&&!(decide (0<i)&&!Op.bytesLess (fieldAt fs (i-1)).1 (fieldAt fs i).1)
def fB (fs:List jM):Bool:=lN fs.length (kP fs)&&decide ((fs.length:Int)≤5)
def jv (fs:List jM) (name:Bytes) (k n:Int) (s:Bytes):Bool:=jm k n s&&!decide (k=0)&&decide (k=kindOf fs name)
def dG (as:List iy) (i:Nat):iy:=as.getD i ([],0,0,[],())
def nO (fs:List jM) (as:List iy) (i:Nat):Bool:=
 jv fs (dG as i).1 (dG as i).2.1 (dG as i).2.2.1 (dG as i).2.2.2.1&&!(decide (0<i)&&!Op.bytesLess (dG as (i-1)).1 (dG as i).1)
def pO (fs:List jM) (as:List iy):Bool:=lN as.length (nO fs as)
def dO (fs:List jM) (f:gY):Bool:=
 pO fs f.2.2.2.2.1&&fB fs&&(decide (1≤f.1)&&decide (f.1≤60))&&(decide (0≤f.2.1)&&decide (f.2.1≤2))&&(decide (0≤f.2.2.2.1)&&decide (f.2.2.2.1≤60))
def fileAt (fs:List gY) (i:Nat):gY:=fs.getD i (0,0,false,0,[],())
def mJ (s:iT) (i:Nat):Bool:=
 dO s.1 (fileAt s.2.1 i)&&decide ((fileAt s.2.1 i).1<s.2.2.1)&&!(decide (0<i)&&!decide ((fileAt s.2.1 (i-1)).1<(fileAt s.2.1 i).1))
def dh (s:iT):Bool:=
 lN s.2.1.length (mJ s)&&fB s.1&&decide ((s.2.1.length:Int)≤12)&&(decide (1≤s.2.2.1)&&decide (s.2.2.1≤61))
def Cj:Int→List gY→Int→Int
 |_,[],_=>-1
 |k,f::r,id=>bif decide (f.1=id) then k else Cj (k+1) r id
def place (fs:List gY) (id:Int):Int:=Cj 0 fs id
def qZ (name:Bytes) (b:iy):Bool:=!(b.1==name)
def uh (name:Bytes) (b:iy):Bool:=Op.bytesLess b.1 name||b.1==name
def acG (as:List iy) (a:iy):List iy:=as.takeWhile (uh a.1)++a::as.dropWhile (uh a.1)
def kF (as:List iy) (name:Bytes) (k n:Int) (s:Bytes):List iy:=
 bif decide (k=0) then as.filter (qZ name) else acG (as.filter (qZ name)) (name,k,n,s,())
def bF (s:iT) (f:gY):iT×Int×Bool:=
 let g:gY:=(s.2.2.1,f.2)
 bif dh s&&decide ((s.2.1.length:Int)<12)&&dO s.1 g then ((s.1,s.2.1++[g],s.2.2.1+1,()),s.2.2.1,true) else (s,0,false)
def dU (s:iT) (id:Int):iT×Bool:=
 bif dh s&&!decide (place s.2.1 id<0) then ((s.1,s.2.1.eraseIdx (place s.2.1 id).toNat,s.2.2.1,()),true) else (s,false)
def am7 {α:Type} (p:α→Bool):Int→List α→Int
 |_,[]=>-1
 |k,f::r=>bif p f then k else am7 p (k+1) r
def findAt {α:Type} (p:α→Bool) (l:List α):Int:=am7 p 0 l
def fieldPlace (l:List jM) (name:Bytes):Int:=findAt (fun f=>f.1==name) l
end Sp
namespace Sp
theorem am8:∀ (n m:Nat) (L:Nat→Nat),(∀ k,k<m→∃ j,j<n∧L j=k)→m≤n
 |0,m,L,h=>by
  rcases Nat.eq_zero_or_pos m with h0|h0
  · omega
  · obtain ⟨j,hj,_⟩:=h 0 h0;omega
 |n+1,m,L,h=>by
  by_cases hv:L n<m
  · have:=am8 n (m-1) (fun j=>if L n<L j then L j-1 else L j) fun k hk=>by
     by_cases h1:k<L n
     · obtain ⟨j,hj,e⟩:=h k (by omega)
       have:j≠n:=fun e2=>by subst e2;omega
       exact ⟨j,by omega,by show (if _ then _ else _)=_;rw [if_neg (by omega)];exact e⟩
     · obtain ⟨j,hj,e⟩:=h (k+1) (by omega)
       have:j≠n:=fun e2=>by subst e2;omega
       exact ⟨j,by omega,by show (if _ then _ else _)=_;rw [if_pos (by omega)];omega⟩
    omega
  · have:=am8 n m L fun k hk=>by
     obtain ⟨j,hj,e⟩:=h k hk
     have:j≠n:=fun e2=>by subst e2;omega
     exact ⟨j,by omega,e⟩
    omega
abbrev XW:=List (Nat×Nat×Nat)
def nH (E:XW) (L:Nat→Nat):Prop:=∀ e∈E,L e.2.1+e.2.2≤L e.1
def ajI (E:XW) (n:Nat):Prop:=∀ e∈E,e.1<n∧e.2.1<n∧e.2.2≤1
def sumTo (n:Nat) (L:Nat→Nat):Nat:=match n with|0=>0|n+1=>sumTo n L+L n
theorem sumTo_le {L M:Nat→Nat}:∀ n,(∀ i,i<n→L i≤M i)→sumTo n L≤sumTo n M
 |0,_=>Nat.le_refl _
 |n+1,h=>Nat.add_le_add (sumTo_le n fun i hi=>h i (by omega)) (h n (by omega))
theorem am9 {L M:Nat→Nat}:∀ n,(∀ i,i<n→L i≤M i)→(∃ i,i<n∧L i<M i)→sumTo n L<sumTo n M
 |0,_,⟨i,hi,_⟩=>by omega
 |n+1,h,⟨i,hi,hl⟩=>by
  have h1:=sumTo_le n fun j hj=>h j (Nat.lt_succ_of_lt hj)
  show sumTo n L+L n<sumTo n M+M n
  by_cases e:i=n
  · subst e;omega
  · have:=am9 n (fun j hj=>h j (Nat.lt_succ_of_lt hj)) ⟨i,by omega,hl⟩
    have:=h n (by omega)
    omega
theorem VS {E:XW} {n:Nat} (hE:ajI E n):∀ (s:Nat) (L:Nat→Nat),sumTo n L≤s→nH E L→∃ M,nH E M∧∀ i,i<n→M i<n
 |s,L,hs,hL=>by
  by_cases hall:∀ i,i<n→L i<n
  · exact ⟨L,hL,hall⟩
  · obtain ⟨i,hi⟩:=Classical.not_forall.1 hall
    have hi1:i<n∧n≤L i:=by
     by_cases h1:i<n
     · exact ⟨h1,Nat.le_of_not_lt fun h2=>hi fun _=>h2⟩
     · exact (hi fun h2=>(h1 h2).elim).elim
    have ata:∃ k,k<n∧∀ j,j<n→L j≠k:=by
     refine Classical.byContradiction fun hno=>?_
     have:=am8 n (n+1) (fun j=>min (L j) n) fun k hk=>by
      by_cases h1:k<n
      · refine Classical.byContradiction fun h2=>hno ⟨k,h1,fun j hj e=>h2 ⟨j,hj,?_⟩⟩
        show min (L j) n=k
        omega
      · exact ⟨i,hi1.1,by show min (L i) n=k;omega⟩
     omega
    obtain ⟨k,hk,hno⟩:=ata
    have hlt:sumTo n (fun j=>if k<L j then L j-1 else L j)<sumTo n L:=by
     refine am9 n (fun j _=>?_) ⟨i,hi1.1,?_⟩
     · show (if _ then _ else _)≤_
       split
       · exact Nat.sub_le _ _
       · exact Nat.le_refl _
     · show (if _ then _ else _)<_;rw [if_pos (by omega)];omega
    match s,hs with
    |0,hs=>omega
    |s+1,hs=>
     refine VS hE s (fun j=>if k<L j then L j-1 else L j) (by omega) fun e he=>?_
     have h1:=hL e he
     obtain ⟨h2,h3,h4⟩:=hE e he
     have n1:=hno e.1 h2
     have n2:=hno e.2.1 h3
     show (if k<L e.2.1 then L e.2.1-1 else L e.2.1)+e.2.2≤(if k<L e.1 then L e.1-1 else L e.1)
     split<;>split<;>omega
theorem am1 {E:XW} {n:Nat} (hE:ajI E n) (h:∃ L,nH E L):∃ M,nH E M∧∀ i,i<n→M i<n:=by
 obtain ⟨L,hL⟩:=h
 exact VS hE (sumTo n L) L (Nat.le_refl _) hL
structure Raises (E:XW) (n:Nat) (R:(Nat→Nat)→Nat→Nat):Prop where
 up:∀ L i,L i≤R L i
 fix:∀ L,(∀ i,i<n→R L i=L i)→nH E L
 below:∀ L M,nH E M→(∀ i,i<n→L i≤M i)→∀ i,i<n→R L i≤M i
 same:∀ L L',(∀ i,i<n→L i=L' i)→∀ i,i<n→R L i=R L' i
end Sp
namespace Sp
open Go
abbrev Me:=List jM×List gY×Int×List eY×Unit
abbrev iF:=Int×List jM×List gY×Int×List eY×Int×Unit
instance:DecidableEq (List iC):=inferInstance
instance:DecidableEq eY:=inferInstance
instance:DecidableEq (List eY):=inferInstance
instance:DecidableEq (List eY×Unit):=inferInstance
instance:DecidableEq (Int×List eY×Unit):=inferInstance
instance:DecidableEq (List gY×Int×List eY×Unit):=inferInstance
instance atM:DecidableEq Me:=(inferInstance:DecidableEq (List jM×List gY×Int×List eY×Unit))
instance:DecidableEq (List eY×Int×Unit):=inferInstance
instance:DecidableEq (Int×List eY×Int×Unit):=inferInstance
instance:DecidableEq (List gY×Int×List eY×Int×Unit):=inferInstance
instance:DecidableEq (List jM×List gY×Int×List eY×Int×Unit):=inferInstance
instance atW:DecidableEq iF:=(inferInstance:DecidableEq (Int×List jM×List gY×Int×List eY×Int×Unit))
instance:DecidableEq (List iF):=inferInstance
def nodeAt (q:List iC) (i:Nat):iC:=q.getD i (0,0,0,[],0,0,[],())
def acI (n:iC):Bool:=n.1==6||n.1==7
def KA (n:iC):Bool:=n.1==8||n.1==9
def oK (n:iC) (a:Int):Bool:=
 let kids:=decide (0≤n.2.1)&&decide (n.2.1≤a-1)&&decide (0<a)
 let two:=decide (0≤n.2.2.1)&&decide (n.2.2.1≤a-1)
 let bare:=n.2.2.2.1==[]&&(n.2.2.2.2.1==0&&(n.2.2.2.2.2.1==0&&n.2.2.2.2.2.2.1==[]))
 let flat:=n.2.1==0&&n.2.2.1==0
 let valued:=jm n.2.2.2.2.1 n.2.2.2.2.2.1 n.2.2.2.2.2.2.1
 let void:=n.2.2.2.2.1==0&&(n.2.2.2.2.2.1==0&&n.2.2.2.2.2.2.1==[])
 bif n.1==1 then flat&&bare else bif n.1==2 then flat&&void&&ji n.2.2.2.1 else
 bif n.1==3 then flat&&ji n.2.2.2.1&&valued&&!(n.2.2.2.2.1==0) else bif n.1==4 then flat&&ji n.2.2.2.1&&valued&&n.2.2.2.2.1==1 else
 bif n.1==5 then kids&&n.2.2.1==0&&bare else bif n.1==6||n.1==7 then kids&&two&&bare else
 bif n.1==8||n.1==9 then flat&&void&&gG n.2.2.2.1 else false
def refsOf (a:Int) (n:iC):Nat:=(bif (acI n||n.1==5)&&n.2.1==a then 1 else 0)+(bif acI n&&n.2.2.1==a then 1 else 0)
def lW (q:List iC) (a:Int):Nat:=(q.map (refsOf a)).sum
def pJ (q:List iC) (i:Nat):Bool:=oK (nodeAt q i) i&&!(decide ((i:Int)<(q.length:Int)-1)&&!(lW q i==1))
def iG (q:List iC):Bool:=lN q.length (pJ q)&&(decide (1≤(q.length:Int))&&decide ((q.length:Int)≤9))
def gm (d:List eY) (i:Nat):eY:=d.getD i ([],[],())
def qw (d:List eY) (i:Nat):Bool:=gG (gm d i).1&&iG (gm d i).2.1&&!(decide (0<i)&&!Op.bytesLess (gm d (i-1)).1 (gm d i).1)
def rV (d:List eY):Bool:=lN d.length (qw d)&&decide ((d.length:Int)≤5)
def Eb (q:List iC) (i:Nat) (out:List (Bool×Unit)):List (Bool×Unit):=
 let n:=nodeAt q i
 bif n.1==5 then out.set n.2.1.toNat (true,()) else bif acI n then (out.set n.2.1.toNat ((out.getD i (false,())).1,())).set n.2.2.1.toNat ((out.getD i (false,())).1,()) else out
def qx (q:List iC):Nat→List (Bool×Unit)→List (Bool×Unit)
 |0,out=>out
 |n+1,out=>qx q n (Eb q n out)
def negated (q:List iC):List (Bool×Unit):=bif iG q then qx q q.length (List.replicate q.length (false,())) else []
def fE (q:List iC) (neg:Bool):List Bytes:=(List.range (negated q).length).filterMap fun i=>bif KA (nodeAt q i)&&((negated q).getD i (false,())).1==neg then some (nodeAt q i).2.2.2.1 else none
def FU:Int→List eY→Bytes→Int
 |_,[],_=>-1
 |k,x::r,s=>bif x.1==s then k else FU (k+1) r s
def aO (d:List eY) (s:Bytes):Int:=FU 0 d s
def fH (d:List eY):XW:=
 (List.range d.length).flatMap fun i=>
   ((fE (gm d i).2.1 false).filterMap fun s=>bif decide (0≤aO d s) then some (i,(aO d s).toNat,0) else none)++
   ((fE (gm d i).2.1 true).filterMap fun s=>bif decide (0≤aO d s) then some (i,(aO d s).toNat,1) else none)
open Classical in
noncomputable def gU (d:List eY):Bool:=rV d&&decide (∃ L,nH (fH d) L)
def Ja (x:Me):iT:=(x.1,x.2.1,x.2.2.1,())
noncomputable def wz (x:Me):Bool:=dh (Ja x)&&gU x.2.2.2.1
def bW (v:List iF) (i:Nat):iF:=v.getD i (0,[],[],0,[],0,())
def qp (x:iF):Me:=(x.2.1,x.2.2.1,x.2.2.2.1,x.2.2.2.2.1,())
noncomputable def kJ (v:List iF) (i:Nat):Bool:=
 (decide (1≤(bW v i).1)&&decide ((bW v i).1≤1000000000))&&(!(decide (0<i)&&decide ((bW v (i-1)).1≥(bW v i).1))&&(wz (qp (bW v i))&&(decide (0≤(bW v i).2.2.2.2.2.1)&&decide ((bW v i).2.2.2.2.2.1≤99))))
noncomputable def fO (v:List iF):Bool:=lN v.length (kJ v)&&decide ((v.length:Int)≤6)
def FT:Int→List iF→Int→Int
 |_,[],_=>-1
 |k,x::r,n=>bif x.1==n then k else FT (k+1) r n
def aP (v:List iF) (n:Int):Int:=FT 0 v n
noncomputable def fM (v:List iF) (n:Int) (x:Me):List iF×Bool:=
 bif fO v&&fO (v++[(n,x.1,x.2.1,x.2.2.1,x.2.2.2.1,0,())]) then (v++[(n,x.1,x.2.1,x.2.2.1,x.2.2.2.1,0,())],true) else (v,false)
def iq (v:List iF) (n:Int):Me×Bool:=bif decide (0≤aP v n) then (qp (bW v (aP v n).toNat),true) else (([],[],0,[],()),false)
def fV (r:LS) (l:List Bytes):Prop:=r.length≤1000∧∀ s,(s,())∈r↔s∈l
def yc (d:List eY) (aY:List (Int×Unit)) (more:Int):LS→Int
 |[]=>0
 |x::r=>max (bif decide (0≤aO d x.1) then (aY.getD (aO d x.1).toNat (0,())).1+more else 0) (yc d aY more r)
def PZ (l:LS) (s:Bytes):LS:=
 let n:=(l.takeWhile fun x=>Op.bytesLess x.1 s).length
 bif decide (n<l.length)&&(l.getD n ([],())).1==s then l else l.take n++[(s,())]++l.drop n
def raised (d:List eY) (aY r:List (Int×Unit)):Prop:=
 r.length=d.length∧(∀ i,i<d.length→(aY.getD i (0,())).1≤(r.getD i (0,())).1)∧(∀ B:Int,(∀ i,i<d.length→(aY.getD i (0,())).1≤B)→∀ i,i<d.length→(r.getD i (0,())).1≤B+5000)∧
 ((∀ i,i<d.length→(r.getD i (0,())).1=(aY.getD i (0,())).1)→nH (fH d) fun i=>(aY.getD i (0,())).1.toNat)∧
 ∀ M,nH (fH d) M→(∀ i,i<d.length→(aY.getD i (0,())).1≤M i)→∀ i,i<d.length→(r.getD i (0,())).1≤M i
def bJ (d:List eY):Prop:=d.length≤1000∧∀ x∈d,x.2.1.length≤1000
def eF (x:Me):Prop:=iE (Ja x)∧bJ x.2.2.2.1
def bn (v:List iF):Prop:=v.length≤1000∧∀ x∈v,eF (qp x)
end Sp
namespace Sp
open Go
def zY (x:iF):Int:=x.2.2.2.2.2.1
def am3 (x:iF) (p:Int):iF:=(x.1,x.2.1,x.2.2.1,x.2.2.2.1,x.2.2.2.2.1,p,())
def FI (v:List iF) (n more:Int):Bool:=
 decide (0≤aP v n)&&(decide (0≤zY (bW v (aP v n).toNat)+more)&&decide (zY (bW v (aP v n).toNat)+more≤99))
noncomputable def yj (v:List iF) (n more:Int):List iF×Bool:=
 bif fO v&&FI v n more then (v.set (aP v n).toNat (am3 (bW v (aP v n).toNat) (zY (bW v (aP v n).toNat)+more)),true) else (v,false)
end Sp
namespace Go.Fw
open Go
end Go.Fw
namespace Go.Fw
open Go
theorem gW {p:Prop} [Decidable p] {A B:Prop} (h:p) (a:A):cond (decide p) A B:=by rw [decide_eq_true h];exact a
theorem gX {p:Prop} [Decidable p] {A B:Prop} (h:¬ p) (b:B):cond (decide p) A B:=by rw [decide_eq_false h];exact b
theorem jL {B:((Int×Unit)×Unit→Prop)→((Int×Unit)×Unit→Nat)→(Int×Unit)×Unit→Prop} (len:Nat) (hlen:len≤9223372036854775807) (J:Nat→Prop) (h0:J 0)
 (hstep:∀ I μ (n:Nat),n<len→J n→(J (n+1)→I ((IntKind.i64.wrap ((n:Int)+1),()),())∧μ ((IntKind.i64.wrap ((n:Int)+1),()),())<μ (((n:Int),()),()))→B I μ (((n:Int),()),()))
 (hend:∀ I μ,J len→B I μ (((len:Int),()),())):∃ I,∃ μ,I (((0:Int),()),())∧∀ y,I y→B I μ y:=by
 refine ⟨fun y=>∃ n:Nat,y.1.1=n∧n≤len∧J n,fun y=>((len:Int)-y.1.1).toNat,⟨0,rfl,Nat.zero_le _,h0⟩,?_⟩
 rintro ⟨⟨_,⟨⟩⟩,⟨⟩⟩ ⟨n,rfl,hn,hJ⟩
 rcases Nat.lt_or_ge n len with h|h
 · refine hstep _ _ n h hJ fun hJ'=>?_
   have e:IntKind.i64.wrap ((n:Int)+1)=((n+1:Nat):Int):=gK _ (by omega)
   rw [e]
   exact ⟨⟨n+1,rfl,h,hJ'⟩,by show ((len:Int)-(n+1:Nat)).toNat<((len:Int)-n).toNat;omega⟩
 · have:n=len:=by omega
   subst this
   exact hend _ _ hJ
theorem mM {Y S:Type} (mk:Int→S→Y) (idx:Y→Int) (hidx:∀ i s,idx (mk i s)=i) {B:(Y→Prop)→(Y→Nat)→Y→Prop} (len:Nat) (hlen:len≤9223372036854775807) (J:Nat→S→Prop) {s0:S} (h0:J 0 s0)
 (hstep:∀ I μ (n:Nat) (s:S),n<len→J n s→(∀ s',J (n+1) s'→I (mk (IntKind.i64.wrap ((n:Int)+1)) s')∧μ (mk (IntKind.i64.wrap ((n:Int)+1)) s')<μ (mk n s))→B I μ (mk n s))
 (hend:∀ I μ s,J len s→B I μ (mk len s)):∃ I,∃ μ,I (mk 0 s0)∧∀ y,I y→B I μ y:=by
 refine ⟨fun y=>∃ (n:Nat) (s:S),y=mk n s∧n≤len∧J n s,fun y=>((len:Int)-idx y).toNat,⟨0,s0,rfl,Nat.zero_le _,h0⟩,?_⟩
 rintro _ ⟨n,s,rfl,hn,hJ⟩
 rcases Nat.lt_or_ge n len with h|h
 · refine hstep _ _ n s h hJ fun s' hJ'=>?_
   have e:IntKind.i64.wrap ((n:Int)+1)=((n+1:Nat):Int):=gK _ (by omega)
   rw [e]
   refine ⟨⟨n+1,s',rfl,h,hJ'⟩,?_⟩
   show ((len:Int)-idx (mk (n+1:Nat) s')).toNat<((len:Int)-idx (mk n s)).toNat
   rw [hidx,hidx]
   omega
 · have:n=len:=by omega
   subst this
   exact hend _ _ s hJ
theorem zk {len:Nat} {f:Nat→Bool} {n:Nat} (hn:n<len) (h:f n=false):Sp.lN len f=false:=by
 unfold Sp.lN
 rw [List.all_eq_false]
 exact ⟨n,List.mem_range.2 hn,by rw [h];simp⟩
theorem kC {len:Nat} {f:Nat→Bool} (h:∀ i,i<len→f i=true):Sp.lN len f=true:=by
 unfold Sp.lN
 rw [List.all_eq_true]
 exact fun i hi=>h i (List.mem_range.1 hi)
theorem UA {len:Nat} {f:Nat→Bool}:Sp.lN len f=true↔∀ i,i<len→f i=true:=by
 unfold Sp.lN
 rw [List.all_eq_true]
 exact ⟨fun h i hi=>h i (List.mem_range.2 hi),fun h i hi=>h i (List.mem_range.1 hi)⟩
theorem cZ {n:Nat} {f:Nat→Bool} (h:∀ i,i<n→f i=true) (hn:f n=true):∀ i,i<n+1→f i=true:=fun i hi=>by
 rcases Nat.lt_or_ge i n with h'|h'
 · exact h i h'
 · have:i=n:=by omega
   rw [this];exact hn
theorem jB {b:Bool} (h:(!b)=true):b=false:=by cases b<;>first|rfl|cases h
theorem fJ {b:Bool} (h:(!b)=false):b=true:=by cases b<;>first|rfl|cases h
theorem iV {p:Prop} [Decidable p] (h:decide p=true):p:=of_decide_eq_true h
theorem jh {p:Prop} [Decidable p] (h:decide p=false):¬ p:=of_decide_eq_false h
theorem vT {n:Nat} (h:0<n) (hn:n≤9223372036854775807):IntKind.i64.wrap ((n:Int)-1)=((n-1:Nat):Int):=by rw [gK _ (by omega)];omega
theorem abP {α:Type} {d:α} {a b:List α} (hl:a.length=b.length) (h:∀ i,i<a.length→a.getD i d=b.getD i d):a=b:=by
 refine List.ext_getElem hl fun i h1 h2=>?_
 have:=h i h1
 rw [List.getD_eq_getElem?_getD,List.getD_eq_getElem?_getD,List.getElem?_eq_getElem h1,List.getElem?_eq_getElem h2] at this
 simpa using this
theorem acF {α β:Type} (e:α→α→Bool) (he:∀ x y,e x y=false↔x=y) (d:α) (a b:List α) (t:β) (hlen:a.length≤9223372036854775807) (hl:a.length=b.length) {K:Bool×Unit→Prop} (hF:a≠b→K (false,())) (hT:a=b→K (true,())):
 ∃ (I:(Int×Unit)×Unit→Prop),∃ (μ:(Int×Unit)×Unit→Nat),I (((0:Int),()),())∧∀ (y:(Int×Unit)×Unit),I y→
   bif decide (y.fst.fst<(a.length:Int)) then
    ((0:Int)≤y.fst.fst∧y.fst.fst<(a.length:Int))∧((0:Int)≤y.fst.fst∧y.fst.fst<(b.length:Int))∧
      (bif e (a.getD (Int.toNat y.fst.fst) d) (b.getD (Int.toNat y.fst.fst) d) then K (false,())
      else t=t∧I ((IntKind.i64.wrap (y.fst.fst+(1:Int)),()),())∧μ ((IntKind.i64.wrap (y.fst.fst+(1:Int)),()),())<μ y)
   else K (true,()):=by
 refine jL a.length hlen (fun n=>∀ i,i<n→a.getD i d=b.getD i d) (fun i hi=>by omega) (fun I μ n hn hJ next=>?_) fun I μ hJ=>(by dsimp only;exact gX (by omega) (hT (abP hl hJ)))
 dsimp only
 refine gW (by omega) ⟨⟨by omega,by omega⟩,⟨by omega,by omega⟩,af (fun h=>hF fun h'=>?_) fun h=>⟨rfl,next fun i hi=>?_⟩⟩
 · subst h'
   have:=(he (a.getD n d) (a.getD n d)).2 rfl
   have h:e (a.getD n d) (a.getD n d)=true:=h
   rw [this] at h;cases h
 · rcases Nat.lt_or_ge i n with h'|h'
   · exact hJ i h'
   · have:i=n:=by omega
     rw [this];exact (he _ _).1 h
theorem ae5 {α β:Type} (e:α→α→Bool) (he:∀ x y,e x y=false↔x=y) (d:α) (a b:List α) (t:β) (hlen:a.length≤9223372036854775807) (hl:a.length=b.length) {K:Bool×Unit→Prop} (hF:a≠b→K (false,())) (hT:a=b→K (true,())):
 ∃ (I:(Int×Unit)×Unit→Prop),∃ (μ:(Int×Unit)×Unit→Nat),I (((0:Int),()),())∧∀ (y:(Int×Unit)×Unit),I y→
   bif decide (y.fst.fst<(a.length:Int)) then
    ((0:Int)≤y.fst.fst∧y.fst.fst<(a.length:Int))∧((0:Int)≤y.fst.fst∧y.fst.fst<(b.length:Int))∧True∧
      (bif e (a.getD (Int.toNat y.fst.fst) d) (b.getD (Int.toNat y.fst.fst) d) then K (false,())
      else t=t∧I ((IntKind.i64.wrap (y.fst.fst+(1:Int)),()),())∧μ ((IntKind.i64.wrap (y.fst.fst+(1:Int)),()),())<μ y)
   else K (true,()):=by
 refine jL a.length hlen (fun n=>∀ i,i<n→a.getD i d=b.getD i d) (fun i hi=>by omega) (fun I μ n hn hJ next=>?_) fun I μ hJ=>(by dsimp only;exact gX (by omega) (hT (abP hl hJ)))
 dsimp only
 refine gW (by omega) ⟨⟨by omega,by omega⟩,⟨by omega,by omega⟩,trivial,af (fun h=>hF fun h'=>?_) fun h=>⟨rfl,next fun i hi=>?_⟩⟩
 · subst h'
   have:=(he (a.getD n d) (a.getD n d)).2 rfl
   have h:e (a.getD n d) (a.getD n d)=true:=h
   rw [this] at h;cases h
 · rcases Nat.lt_or_ge i n with h'|h'
   · exact hJ i h'
   · have:i=n:=by omega
     rw [this];exact (he _ _).1 h
end Go.Fw
namespace Sp
open Go Go.Fw
theorem abx {name:Bytes}:∀ (s:List jM) (n:Nat),n<s.length→(∀ i,i<n→(s.getD i ([],0,())).1≠name)→(s.getD n ([],0,())).1=name→kindOf s name=(s.getD n ([],0,())).2.1
 |[],n,h,_,_=>by simp at h
 |f::r,0,_,_,he=>by
  have he:f.1=name:=he
  show (bif decide (f.1=name) then f.2.1 else kindOf r name)=f.2.1
  rw [decide_eq_true he];rfl
 |f::r,n+1,h,hne,he=>by
  have h0:f.1≠name:=hne 0 (by omega)
  show (bif decide (f.1=name) then f.2.1 else kindOf r name)=_
  rw [decide_eq_false h0]
  exact abx r n (by simpa using h) (fun i hi=>hne (i+1) (by omega)) he
theorem Ux {name:Bytes}:∀ (s:List jM),(∀ i,i<s.length→(s.getD i ([],0,())).1≠name)→kindOf s name=0
 |[],_=>rfl
 |f::r,hne=>by
  have h0:f.1≠name:=hne 0 (by simp)
  show (bif decide (f.1=name) then f.2.1 else kindOf r name)=_
  rw [decide_eq_false h0]
  exact Ux r fun i hi=>hne (i+1) (by simp;omega)
theorem abQ {id:Int}:∀ (s:List gY) (k:Int) (n:Nat),n<s.length→(∀ i,i<n→(fileAt s i).1≠id)→(fileAt s n).1=id→Cj k s id=k+n
 |[],_,n,h,_,_=>by simp at h
 |f::r,k,0,_,_,he=>by
  have he:f.1=id:=he
  show (bif decide (f.1=id) then k else Cj (k+1) r id)=_
  rw [decide_eq_true he];simp
 |f::r,k,n+1,h,hne,he=>by
  have h0:f.1≠id:=hne 0 (by omega)
  show (bif decide (f.1=id) then k else Cj (k+1) r id)=_
  rw [decide_eq_false h0]
  show Cj (k+1) r id=_
  rw [abQ r (k+1) n (by simpa using h) (fun i hi=>hne (i+1) (by omega)) he]
  omega
theorem VT {id:Int}:∀ (s:List gY) (k:Int),(∀ i,i<s.length→(fileAt s i).1≠id)→Cj k s id=-1
 |[],_,_=>rfl
 |f::r,k,hne=>by
  have h0:f.1≠id:=hne 0 (by simp)
  show (bif decide (f.1=id) then k else Cj (k+1) r id)=_
  rw [decide_eq_false h0]
  exact VT r (k+1) fun i hi=>hne (i+1) (by simp;omega)
theorem QS {id:Int} {s:List gY} {n:Nat} (h:n<s.length) (hne:∀ i,i<n→(fileAt s i).1≠id) (he:(fileAt s n).1=id):place s id=n:=by
 unfold place
 rw [abQ s 0 n h hne he];omega
theorem ahi {id:Int} {s:List gY} (hne:∀ i,i<s.length→(fileAt s i).1≠id):place s id=-1:=VT s 0 hne
theorem anL (s:List gY) (id:Int):(place s id=-1∧∀ i,i<s.length→(fileAt s i).1≠id)∨∃ n,n<s.length∧place s id=n∧(fileAt s n).1=id∧∀ i,i<n→(fileAt s i).1≠id:=by
 by_cases h:∃ n,n<s.length∧(fileAt s n).1=id
 · obtain ⟨n,h1,h2,h3⟩:=(least s.length (p:=fun n=>(fileAt s n).1=id) h)
   exact .inr ⟨n,h1,QS h1 (fun i hi=>h3 i hi) h2,h2,fun i hi=>h3 i hi⟩
 · have hne:∀ i,i<s.length→(fileAt s i).1≠id:=fun i hi e=>h ⟨i,hi,e⟩
   exact .inl ⟨ahi hne,hne⟩
theorem ad5 {s:List jM} {n:Nat} (h:n<s.length) (hn:kP s n=false):fB s=false:=by
 unfold fB;rw [zk h hn];rfl
theorem ao6 {fs:List jM} {s:List iy} {n:Nat} (h:n<s.length) (hn:nO fs s n=false):pO fs s=false:=zk h hn
theorem akN {fs:List jM} {f:gY} {n:Nat} (h:n<f.2.2.2.2.1.length) (hn:nO fs f.2.2.2.2.1 n=false):dO fs f=false:=by
 unfold dO;rw [ao6 h hn];rfl
theorem ahg {s:iT} {n:Nat} (h:n<s.2.1.length) (hn:mJ s n=false):dh s=false:=by
 unfold dh;rw [zk h hn];rfl
theorem yL {s:iT} {i:Nat}:mJ s i=true↔dO s.1 (fileAt s.2.1 i)=true∧(fileAt s.2.1 i).1<s.2.2.1∧(0<i→(fileAt s.2.1 (i-1)).1<(fileAt s.2.1 i).1):=by
 unfold mJ
 rw [Bool.and_eq_true,Bool.and_eq_true,decide_eq_true_eq,and_assoc]
 refine and_congr_right fun _=>and_congr_right fun _=>?_
 by_cases h:0<i
 · simp [h]
 · simp [h]
theorem Ap {s:iT}:dh s=true↔(∀ i,i<s.2.1.length→mJ s i=true)∧fB s.1=true∧s.2.1.length≤12∧1≤s.2.2.1∧s.2.2.1≤61:=by
 unfold dh
 rw [Bool.and_eq_true,Bool.and_eq_true,Bool.and_eq_true,Bool.and_eq_true,decide_eq_true_eq,decide_eq_true_eq,decide_eq_true_eq,UA]
 constructor
 · rintro ⟨⟨⟨h1,h2⟩,h3⟩,h4,h5⟩;exact ⟨h1,h2,by omega,h4,h5⟩
 · rintro ⟨h1,h2,h3,h4,h5⟩;exact ⟨⟨⟨h1,h2⟩,by omega⟩,h4,h5⟩
theorem ap1 {fs:List jM} {f:gY} (h:dO fs f=true):1≤f.1∧f.1≤60:=by
 unfold dO at h
 simp only [Bool.and_eq_true,decide_eq_true_eq] at h
 exact h.1.1.2
theorem UF {fs:List gY} {g:gY} {i:Nat} (h:i<fs.length):fileAt (fs++[g]) i=fileAt fs i:=by
 unfold fileAt
 rw [List.getD_eq_getElem?_getD,List.getElem?_append_left h,← List.getD_eq_getElem?_getD]
theorem anM {fs:List gY} {g:gY}:fileAt (fs++[g]) fs.length=g:=by
 unfold fileAt
 rw [List.getD_eq_getElem?_getD,List.getElem?_append_right (Nat.le_refl _)];simp
theorem ana {s:iT} {g:gY} (h:dh s=true) (hl:s.2.1.length<12) (hg:dO s.1 g=true) (hid:g.1=s.2.2.1):dh (s.1,s.2.1++[g],s.2.2.1+1,())=true:=by
 obtain ⟨h1,h2,h3,h4,h5⟩:=Ap.1 h
 have hg1:=ap1 hg
 refine Ap.2 ⟨fun i hi=>?_,h2,by show (s.2.1++[g]).length≤12;simp;omega,by show 1≤s.2.2.1+1;omega,by show s.2.2.1+1≤61;omega⟩
 have hi:i<(s.2.1++[g]).length:=hi
 rw [List.length_append,List.length_cons,List.length_nil] at hi
 refine yL.2 ?_
 show dO s.1 (fileAt (s.2.1++[g]) i)=true∧(fileAt (s.2.1++[g]) i).1<s.2.2.1+1∧(0<i→(fileAt (s.2.1++[g]) (i-1)).1<(fileAt (s.2.1++[g]) i).1)
 rcases Nat.lt_or_ge i s.2.1.length with hlt|hge
 · obtain ⟨k1,k2,k3⟩:=yL.1 (h1 i hlt)
   rw [UF hlt]
   refine ⟨k1,by omega,fun h0=>?_⟩
   rw [UF (by omega)]
   exact k3 h0
 · have e:i=s.2.1.length:=by omega
   subst e
   rw [anM]
   refine ⟨hg,by omega,fun h0=>?_⟩
   rw [UF (by omega)]
   have:=(yL.1 (h1 (s.2.1.length-1) (by omega))).2.1
   omega
theorem uj (s:iT) (f:gY):(bF s f=(s,0,false)∧¬ (dh s=true∧s.2.1.length<12∧dO s.1 (s.2.2.1,f.2)=true))∨
 (dh s=true∧s.2.1.length<12∧dO s.1 (s.2.2.1,f.2)=true∧bF s f=((s.1,s.2.1++[(s.2.2.1,f.2)],s.2.2.1+1,()),s.2.2.1,true)):=by
 by_cases h:dh s=true∧s.2.1.length<12∧dO s.1 (s.2.2.1,f.2)=true
 · right
   refine ⟨h.1,h.2.1,h.2.2,?_⟩
   unfold bF
   dsimp only
   rw [h.1,h.2.2,decide_eq_true (by omega)];rfl
 · left
   refine ⟨?_,h⟩
   have:(dh s&&decide ((s.2.1.length:Int)<12)&&dO s.1 (s.2.2.1,f.2))=false:=by
    cases hb:(dh s&&decide ((s.2.1.length:Int)<12)&&dO s.1 (s.2.2.1,f.2)) with
    |false=>rfl
    |true=>
     simp only [Bool.and_eq_true,decide_eq_true_eq] at hb
     exact (h ⟨hb.1.1,by omega,hb.2⟩).elim
   unfold bF
   dsimp only
   rw [this];rfl
theorem ajq {s:iT} (f:gY) (h:dh s=true):dh (bF s f).1=true:=by
 rcases uj s f with ⟨e,_⟩|⟨h1,h2,h3,e⟩
 · rw [e];exact h
 · rw [e];exact ana h1 h2 h3 rfl
theorem alr {s:iT} {f:gY} (h:iE s) (hf:jR f):iE (bF s f).1:=by
 rcases uj s f with ⟨e,_⟩|⟨h1,h2,h3,e⟩
 · rw [e];exact h
 · rw [e]
   refine ⟨h.1,by show (s.2.1++[(s.2.2.1,f.2)]).length≤1000;simp;omega,fun g hg=>?_⟩
   have hg:g∈s.2.1++[(s.2.2.1,f.2)]:=hg
   rcases List.mem_append.1 hg with hg|hg
   · exact h.2.2 g hg
   · have:g=(s.2.2.1,f.2):=by simpa using hg
     subst this;exact hf
theorem yK (s:iT) (id:Int):(dU s id=(s,false)∧¬ (dh s=true∧0≤place s.2.1 id))∨
 ∃ n,n<s.2.1.length∧place s.2.1 id=n∧dh s=true∧dU s id=((s.1,s.2.1.eraseIdx n,s.2.2.1,()),true):=by
 rcases anL s.2.1 id with ⟨h,_⟩|⟨n,hn,h,_,_⟩
 · left
   refine ⟨?_,fun h'=>by omega⟩
   unfold dU
   rw [h];simp
 · cases ho:dh s with
   |false=>
    left
    refine ⟨?_,fun h'=>by cases h'.1⟩
    unfold dU
    rw [ho];rfl
   |true=>
    right
    refine ⟨n,hn,h,rfl,?_⟩
    unfold dU
    rw [ho,h,decide_eq_false (by omega),Int.toNat_natCast];rfl
theorem abR {fs:List gY} {n i:Nat}:fileAt (fs.eraseIdx n) i=if i<n then fileAt fs i else fileAt fs (i+1):=by
 unfold fileAt
 rw [List.getD_eq_getElem?_getD,List.getElem?_eraseIdx]
 split<;>rw [List.getD_eq_getElem?_getD]
theorem alx {s:iT} {n:Nat} (h:dh s=true) (hn:n<s.2.1.length):dh (s.1,s.2.1.eraseIdx n,s.2.2.1,())=true:=by
 obtain ⟨h1,h2,h3,h4,h5⟩:=Ap.1 h
 have hlen:(s.2.1.eraseIdx n).length=s.2.1.length-1:=List.length_eraseIdx_of_lt hn
 refine Ap.2 ⟨fun i hi=>?_,h2,by show (s.2.1.eraseIdx n).length≤12;omega,h4,h5⟩
 have hi:i<(s.2.1.eraseIdx n).length:=hi
 refine yL.2 ?_
 show dO s.1 (fileAt (s.2.1.eraseIdx n) i)=true∧(fileAt (s.2.1.eraseIdx n) i).1<s.2.2.1∧(0<i→(fileAt (s.2.1.eraseIdx n) (i-1)).1<(fileAt (s.2.1.eraseIdx n) i).1)
 rw [abR,abR]
 rcases Nat.lt_or_ge i n with hlt|hge
 · rw [if_pos hlt]
   obtain ⟨k1,k2,k3⟩:=yL.1 (h1 i (by omega))
   refine ⟨k1,k2,fun h0=>?_⟩
   rw [if_pos (by omega)]
   exact k3 h0
 · rw [if_neg (by omega)]
   obtain ⟨k1,k2,k3⟩:=yL.1 (h1 (i+1) (by omega))
   refine ⟨k1,k2,fun h0=>?_⟩
   have k3:=k3 (by omega)
   rw [Nat.add_sub_cancel] at k3
   split
   · have:=(yL.1 (h1 i (by omega))).2.2 h0
     omega
   · rw [show i-1+1=i by omega]
     exact k3
theorem ajr {s:iT} (id:Int) (h:dh s=true):dh (dU s id).1=true:=by
 rcases yK s id with ⟨e,_⟩|⟨n,hn,_,ho,e⟩
 · rw [e];exact h
 · rw [e];exact alx ho hn
theorem als {s:iT} (id:Int) (h:iE s):iE (dU s id).1:=by
 rcases yK s id with ⟨e,_⟩|⟨n,hn,_,ho,e⟩
 · rw [e];exact h
 · rw [e]
   refine ⟨h.1,?_,fun g hg=>h.2.2 g (List.mem_of_mem_eraseIdx hg)⟩
   show (s.2.1.eraseIdx n).length≤1000
   have:=h.2.1
   rw [List.length_eraseIdx_of_lt hn];omega
theorem QU {α:Type} {p:α→Bool} {d:α}:∀ (l:List α) (n:Nat),n≤l.length→(∀ i,i<n→p (l.getD i d)=true)→(n<l.length→p (l.getD n d)=false)→l.takeWhile p=l.take n∧l.dropWhile p=l.drop n
 |[],n,h,_,_=>by simp
 |x::r,0,_,_,h=>by
  have h:p x=false:=h (by simp)
  constructor<;>simp [h]
 |x::r,n+1,hn,h1,h2=>by
  have h0:p x=true:=h1 0 (by omega)
  have:=QU r n (by simpa using hn) (fun i hi=>h1 (i+1) (by omega)) fun hlt=>h2 (by simpa using hlt)
  constructor<;>simp [h0,this.1,this.2]
end Sp
namespace Sp
open Go Go.Fw
end Sp
namespace Sp
open Go
theorem abS (s:Bytes):∀ (d:List eY) (k:Int),(FU k d s=-1∧∀ x∈d,x.1≠s)∨∃ n,n<d.length∧FU k d s=k+n∧(gm d n).1=s∧∀ i,i<n→(gm d i).1≠s
 |[],k=> .inl ⟨rfl,fun x hx=>by cases hx⟩
 |x::r,k=>by
  by_cases h:x.1=s
  · right
    refine ⟨0,by simp,?_,h,fun i hi=>by omega⟩
    rw [FU,beq_iff_eq.2 h];simp
  · rcases abS s r (k+1) with ⟨h1,h2⟩|⟨n,h1,h2,h3,h4⟩
    · left
      refine ⟨by rw [FU,beq_eq_false_iff_ne.2 h];exact h1,fun y hy=>?_⟩
      rcases List.mem_cons.1 hy with rfl|hy
      · exact h
      · exact h2 y hy
    · right
      refine ⟨n+1,by simp;omega,by rw [FU,beq_eq_false_iff_ne.2 h];show FU (k+1) r s=_;omega,h3,fun i hi=>?_⟩
      cases i with
      |zero=>exact h
      |succ i=>exact h4 i (by omega)
theorem LV (d:List eY) (s:Bytes):(aO d s=-1∧∀ x∈d,x.1≠s)∨∃ n,n<d.length∧aO d s=n∧(gm d n).1=s∧∀ i,i<n→(gm d i).1≠s:=by
 rcases abS s d 0 with h|⟨n,h1,h2,h3⟩
 · exact .inl h
 · exact .inr ⟨n,h1,by show FU 0 d s=_;omega,h3⟩
theorem MB {d:List eY} {s:Bytes} (h:0≤aO d s):aO d s<d.length:=by
 rcases LV d s with ⟨h1,_⟩|⟨n,h1,h2,_⟩<;>omega
theorem I9 {d:List eY} {i j m:Nat}:(i,j,m)∈fH d↔i<d.length∧∃ s,((m=0∧s∈fE (gm d i).2.1 false)∨(m=1∧s∈fE (gm d i).2.1 true))∧0≤aO d s∧j=(aO d s).toNat:=by
 unfold fH
 rw [List.mem_flatMap]
 constructor
 · rintro ⟨k,hk,h⟩
   rw [List.mem_range] at hk
   rcases List.mem_append.1 h with h|h
   all_goals
    obtain ⟨s,hs,e⟩:=List.mem_filterMap.1 h
    rw [cond_eq_ite] at e
    split at e
    · next hp=>
      have hp:0≤aO d s:=of_decide_eq_true hp
      cases e
      exact ⟨hk,s,by first|exact .inl ⟨rfl,hs⟩|exact .inr ⟨rfl,hs⟩,hp,rfl⟩
    · cases e
 · rintro ⟨hi,s,h|h,hp,rfl⟩
   · obtain ⟨rfl,hs⟩:=h
     refine ⟨i,List.mem_range.2 hi,List.mem_append.2 (.inl (List.mem_filterMap.2 ⟨s,hs,?_⟩))⟩
     rw [decide_eq_true hp];rfl
   · obtain ⟨rfl,hs⟩:=h
     refine ⟨i,List.mem_range.2 hi,List.mem_append.2 (.inr (List.mem_filterMap.2 ⟨s,hs,?_⟩))⟩
     rw [decide_eq_true hp];rfl
theorem pI (d:List eY):ajI (fH d) d.length:=by
 rintro ⟨i,j,m⟩ he
 obtain ⟨h1,s,h2,h3,h4⟩:=I9.1 he
 have:=MB h3
 refine ⟨h1,?_,?_⟩
 · show j<_;omega
 · show m≤1;rcases h2 with ⟨h,_⟩|⟨h,_⟩<;>omega
def lv (l:List (Int×Unit)) (i:Nat):Int:=(l.getD i (0,())).1
theorem am2 {l:List (Int×Unit)} {i:Nat} (hi:i<l.length) (x:Int) (k:Nat):lv (l.set i (x,())) k=if k=i then x else lv l k:=by
 unfold lv
 rw [List.getD_eq_getElem?_getD,List.getD_eq_getElem?_getD]
 by_cases h:k=i
 · subst h;rw [List.getElem?_set_self hi,if_pos rfl];rfl
 · rw [List.getElem?_set_ne (fun e=>h e.symm),if_neg h]
theorem am6 {l:List (Int×Unit)} {i:Nat} (hi:i<l.length):(lv l i,())∈l:=by
 unfold lv
 rw [List.getD_eq_getElem?_getD,List.getElem?_eq_getElem hi]
 exact List.getElem_mem hi
theorem apV {l:List (Int×Unit)} {p:Int→Prop} (h:∀ i,i<l.length→p (lv l i)):∀ x∈l,p x.1:=by
 intro x hx
 obtain ⟨i,hi,e⟩:=List.getElem_of_mem hx
 have:=h i hi
 unfold lv at this
 rw [List.getD_eq_getElem?_getD,List.getElem?_eq_getElem hi] at this
 rw [← e];exact this
theorem arG {a b:List (Int×Unit)} (hl:a.length=b.length) (h:∀ i,i<a.length→lv a i=lv b i):a=b:=by
 refine List.ext_getElem hl fun i h1 h2=>?_
 have:=h i h1
 unfold lv at this
 rw [List.getD_eq_getElem?_getD,List.getD_eq_getElem?_getD,List.getElem?_eq_getElem h1,List.getElem?_eq_getElem h2] at this
 exact Prod.ext this rfl
structure KY (d:List eY) (aY cur:List (Int×Unit)) (g:Int) (P:Nat×Nat×Nat→Prop):Prop where
 len:cur.length=d.length
 up:∀ i,i<d.length→lv aY i≤lv cur i
 grow:∀ B,(∀ i,i<d.length→lv aY i≤B)→∀ i,i<d.length→lv cur i≤B+g
 fix:(∀ i,i<d.length→lv cur i=lv aY i)→∀ e,P e→lv aY e.2.1+e.2.2≤lv aY e.1
 below:∀ M,nH (fH d) M→(∀ i,i<d.length→lv aY i≤M i)→∀ i,i<d.length→lv cur i≤M i
theorem KY.start {d:List eY} {aY:List (Int×Unit)} (h:aY.length=d.length):KY d aY aY 0 fun _=>False:=
 ⟨h,fun _ _=>Int.le_refl _,fun B hB i hi=>by have:=hB i hi;omega,fun _ e he=>he.elim,fun _ _ h=>h⟩
theorem KY.weaken {d:List eY} {aY cur:List (Int×Unit)} {g g':Int} {P P':Nat×Nat×Nat→Prop} (h:KY d aY cur g P) (hg:g≤g') (hP:∀ e,P' e→P e):KY d aY cur g' P':=
 ⟨h.len,h.up,fun B hB i hi=>by have:=h.grow B hB i hi;omega,fun hx e he=>h.fix hx e (hP e he),h.below⟩
theorem KY.still {d:List eY} {aY cur:List (Int×Unit)} {g:Int} {P:Nat×Nat×Nat→Prop} (h:KY d aY cur g P) {i j m:Nat} (he:(i,j,m)∈fH d) (hle:lv cur j+m≤lv cur i):KY d aY cur g fun e=>P e∨e=(i,j,m):=by
 obtain ⟨h1,h2,_⟩:=pI d _ he
 refine ⟨h.len,h.up,h.grow,fun hx e hp=>?_,h.below⟩
 rcases hp with hp|rfl
 · exact h.fix hx e hp
 · have a:=hx i h1
   have b:=hx j h2
   show lv aY j+m≤lv aY i
   omega
theorem KY.set {d:List eY} {aY cur:List (Int×Unit)} {g:Int} {P:Nat×Nat×Nat→Prop} (h:KY d aY cur g P) {i j m:Nat} (he:(i,j,m)∈fH d) (hlt:lv cur i<lv cur j+m):KY d aY (cur.set i (lv cur j+m,())) (g+m) fun e=>P e∨e=(i,j,m):=by
 obtain ⟨h1,h2,_⟩:=pI d _ he
 have h1:i<d.length:=h1
 have h2:j<d.length:=h2
 have hl:=h.len
 have hs:=fun k=>am2 (l:=cur) (i:=i) (by omega) (lv cur j+m) k
 refine ⟨by simp;omega,fun k hk=>?_,fun B hB k hk=>?_,fun hx e hp=>?_,fun M hM hb k hk=>?_⟩
 · rw [hs];have a:=h.up k hk;split
   · next e=>subst e;omega
   · exact a
 · rw [hs]
   have a:=h.grow B hB k hk
   have b:=h.grow B hB j h2
   split<;>omega
 · have:=hx i h1
   rw [hs,if_pos rfl] at this
   have:=h.up i h1
   omega
 · rw [hs]
   split
   · next e=>
     subst e
     have a:=h.below M hM hb j h2
     have b:=hM _ he
     have b:M j+m≤M k:=b
     omega
   · exact h.below M hM hb k hk
theorem KY.raised {d:List eY} {aY cur:List (Int×Unit)} {g:Int} {P:Nat×Nat×Nat→Prop} (h:KY d aY cur g P) (hg:g≤5000) (hP:∀ e∈fH d,P e) (h0:∀ i,i<d.length→0≤lv aY i):raised d aY cur:=by
 refine ⟨h.len,h.up,fun B hB i hi=>by have:=h.grow B hB i hi;show lv cur i≤_;omega,fun hx e he=>?_,h.below⟩
 have a:=h.fix hx e (hP e he)
 obtain ⟨h1,h2,_⟩:=pI d _ he
 have b:=h0 _ h1
 have c:=h0 _ h2
 show (lv aY e.2.1).toNat+e.2.2≤(lv aY e.1).toNat
 omega
theorem ahS (d:List eY) (aY:List (Int×Unit)) (hl:aY.length=d.length):∀ (E:XW),(∀ e∈E,e∈fH d)→∃ cur:List (Int×Unit),cur.length=d.length∧(∀ i,i<d.length→lv aY i≤lv cur i∧(lv cur i=lv aY i∨∃ e∈E,e.1=i∧lv cur i=lv aY e.2.1+e.2.2))∧∀ e∈E,lv aY e.2.1+e.2.2≤lv cur e.1
 |[],_=>⟨aY,hl,fun i hi=>⟨Int.le_refl _, .inl rfl⟩,fun e he=>by cases he⟩
 |e::E,hE=>by
  obtain ⟨cur,h1,h2,h3⟩:=ahS d aY hl E fun x hx=>hE x (List.mem_cons_of_mem _ hx)
  obtain ⟨g1,g2,_⟩:=pI d e (hE e List.mem_cons_self)
  by_cases h:lv cur e.1<lv aY e.2.1+e.2.2
  · have hs:=fun k=>am2 (l:=cur) (i:=e.1) (by omega) (lv aY e.2.1+e.2.2) k
    refine ⟨cur.set e.1 (lv aY e.2.1+e.2.2,()),by simp;omega,fun i hi=>?_,fun x hx=>?_⟩
    · rw [hs]
      have:=h2 i hi
      split
      · next hi'=>exact ⟨by rw [hi'] at this ⊢;omega, .inr ⟨e,List.mem_cons_self,hi'.symm,rfl⟩⟩
      · refine ⟨this.1,this.2.imp_right fun ⟨x,hx,hy⟩=>⟨x,List.mem_cons_of_mem _ hx,hy⟩⟩
    · rw [hs]
      rcases List.mem_cons.1 hx with rfl|hx
      · rw [if_pos rfl];omega
      · have:=h3 x hx
        split
        · next he=>rw [he] at this;omega
        · exact this
  · refine ⟨cur,h1,fun i hi=>?_,fun x hx=>?_⟩
    · have:=h2 i hi
      exact ⟨this.1,this.2.imp_right fun ⟨x,hx,hy⟩=>⟨x,List.mem_cons_of_mem _ hx,hy⟩⟩
    · rcases List.mem_cons.1 hx with rfl|hx
      · omega
      · exact h3 x hx
theorem anK (d:List eY) (aY:List (Int×Unit)) (hl:aY.length=d.length) (h0:∀ i,i<d.length→0≤lv aY i):∃ cur,raised d aY cur:=by
 obtain ⟨cur,h1,h2,h3⟩:=ahS d aY hl (fH d) fun _ h=>h
 refine ⟨cur,h1,fun i hi=>(h2 i hi).1,fun B hB i hi=>?_,fun hx e he=>?_,fun M hM hb i hi=>?_⟩
 · show lv cur i≤_
   rcases (h2 i hi).2 with h|⟨e,he,rfl,h⟩
   · rw [h];have:=hB i hi;show (aY.getD i (0,())).1≤_;omega
   · obtain ⟨_,g2,g3⟩:=pI d e he
     have:lv aY e.2.1≤B:=hB _ g2
     omega
 · obtain ⟨g1,g2,_⟩:=pI d e he
   have a:=h3 e he
   have b:=h0 _ g1
   have c:=h0 _ g2
   have x:lv cur e.1=lv aY e.1:=hx _ g1
   show (lv aY e.2.1).toNat+e.2.2≤(lv aY e.1).toNat
   omega
 · show lv cur i≤_
   rcases (h2 i hi).2 with h|⟨e,he,rfl,h⟩
   · rw [h];exact hb i hi
   · obtain ⟨_,g2,_⟩:=pI d e he
     have a:lv aY e.2.1≤M e.2.1:=hb _ g2
     have b:=hM e he
     omega
theorem I8 {d:List eY} {aY:List (Int×Unit)} {more:Int}:∀ (r:LS) (B:Int),yc d aY more r≤B↔0≤B∧∀ x∈r,0≤aO d x.1→lv aY (aO d x.1).toNat+more≤B
 |[],B=>by simp [yc]
 |x::r,B=>by
  have ih:=I8 (d:=d) (aY:=aY) (more:=more) r B
  rw [yc]
  have e:∀ a b:Int,max a b≤B↔a≤B∧b≤B:=fun a b=>by omega
  rw [e,ih]
  simp only [List.mem_cons,forall_eq_or_imp]
  by_cases h:0≤aO d x.1
  · rw [decide_eq_true h]
    show lv aY _+more≤B∧_↔_
    constructor
    · exact fun ⟨a,b,c⟩=>⟨b,fun _=>a,c⟩
    · exact fun ⟨a,b,c⟩=>⟨b h,a,c⟩
  · rw [decide_eq_false h]
    show (0:Int)≤B∧_↔_
    constructor
    · exact fun ⟨a,b,c⟩=>⟨b,fun h'=>(h h').elim,c⟩
    · exact fun ⟨a,b,c⟩=>⟨a,a,c⟩
def zW (l:List (Int×Unit)):Nat→Int
 |0=>0
 |n+1=>zW l n+lv l n
theorem afg {a b:List (Int×Unit)}:∀ n,(∀ i,i<n→lv a i≤lv b i)→zW a n≤zW b n
 |0,_=>Int.le_refl _
 |n+1,h=>Int.add_le_add (afg n fun i hi=>h i (by omega)) (h n (by omega))
theorem aff {a b:List (Int×Unit)}:∀ n,(∀ i,i<n→lv a i≤lv b i)→(∃ i,i<n∧lv a i<lv b i)→zW a n<zW b n
 |0,_,⟨i,hi,_⟩=>by omega
 |n+1,h,⟨i,hi,hl⟩=>by
  have h1:=afg n fun j hj=>h j (Nat.lt_succ_of_lt hj)
  show zW a n+lv a n<zW b n+lv b n
  by_cases e:i=n
  · subst e;omega
  · have:=aff n (fun j hj=>h j (Nat.lt_succ_of_lt hj)) ⟨i,by omega,hl⟩
    have:=h n (by omega)
    omega
theorem Uy {a:List (Int×Unit)} {b:Nat}:∀ n:Nat,(∀ i,i<n→lv a i≤b)→zW a n≤(n*b:Nat)
 |0,_=>by simp [zW]
 |n+1,h=>by
  have h1:=Uy n fun i hi=>h i (Nat.lt_succ_of_lt hi)
  have h2:=h n (by omega)
  show zW a n+lv a n≤((n+1)*b:Nat)
  rw [Nat.succ_mul];omega
theorem abE {a:List (Int×Unit)}:∀ n:Nat,(∀ i,i<n→0≤lv a i)→0≤zW a n
 |0,_=>Int.le_refl _
 |n+1,h=>Int.add_nonneg (abE n fun i hi=>h i (by omega)) (h n (by omega))
theorem LP {d:List eY}:gU d=true↔rV d=true∧∃ L,nH (fH d) L:=by
 unfold gU
 simp
theorem ahs {d:List eY} (h:rV d=true):d.length≤5:=by
 unfold rV at h
 simp only [Bool.and_eq_true,decide_eq_true_eq] at h
 omega
end Sp
