import Derived.Test.YtkgkfdphbkfjnaaGreatFwA
import Derived.Lib.ItoaNum
import Derived.Lib.ItoaLen
import Derived.Lib.Join
import Derived.Test.YtkgkfdphbkfjnaaGreatFwC
namespace Sp
open Go
abbrev Bytes:=List UInt8
abbrev LI:=List (Int×Unit)
abbrev LS:=List (Bytes×Unit)
theorem take_succ' {α:Type} (a:List α) (n:Nat) (d:α) (h:n<a.length):a.take (n+1)=a.take n++[a.getD n d]:=by
 rw [List.take_succ_eq_append_getElem h,List.getD_eq_getElem?_getD,List.getElem?_eq_getElem h];rfl
def afs (l:LI):Prop:=∀ x∈l,-9223372036854775808≤x.1∧x.1≤9223372036854775807
theorem afs.take {a:LI} (h:afs a) (n:Nat):afs (a.take n):=fun x hx=>h x (List.mem_of_mem_take hx)
theorem afs.get {a:LI} (h:afs a) {n:Nat} (hn:n<a.length) (d:Int×Unit):(Lib.itoa (a.getD n d).1).length≤21:=by
 have:a.getD n d∈a:=by rw [List.getD_eq_getElem?_getD,List.getElem?_eq_getElem hn,Option.getD_some];exact List.getElem_mem hn
 exact Lib.itoa_length_le _ (h _ this).1 (h _ this).2
end Sp
namespace Sp
open Go
set_option synthInstance.maxSize 100000
set_option synthInstance.maxHeartbeats 1000000
abbrev ajy:=Int×Int×Bytes×Unit
abbrev fD:=Bytes×Int×Int×Bytes×Unit
abbrev bK:=Int×Int×Int×Bytes×Int×Int×Bytes×Unit
abbrev aN:=Int×Int×Bool×Int×List fD×Unit
abbrev aC:=Bytes×List bK×Unit
abbrev jJ:=Int×Int×Int×Bool×Int×List fD×Int×Bytes×List bK×Unit
instance:DecidableEq ajy:=inferInstance
instance:DecidableEq fD:=inferInstance
instance:DecidableEq bK:=inferInstance
instance:DecidableEq aN:=inferInstance
instance:DecidableEq aC:=inferInstance
instance:DecidableEq (Int×aC):=inferInstance
instance:DecidableEq (List fD×Int×aC):=inferInstance
instance:DecidableEq (Bool×Int×List fD×Int×aC):=inferInstance
instance ase:DecidableEq jJ:=(inferInstance:DecidableEq (Int×Int×Int×Bool×Int×List fD×Int×aC))
instance:DecidableEq (List jJ):=inferInstance
instance:DecidableEq (List jJ×Bytes×Int×Unit):=inferInstance
def lower (s:Bytes):Bool:=s.all fun c=>decide (97≤c.toNat)&&decide (c.toNat≤122)
def iq (s:Bytes):Bool:=lower s&&decide (1≤(s.length:Int))&&decide ((s.length:Int)≤6)
def aqj (n:Int):Bool:=decide (0≤n)&&decide (n≤1000000000)
def idxFrom:Int→LI→Int
 |_,[]=>-1
 |k,x::r=>if aqj x.1 then idxFrom (k+1) r else k
def idxOf (l:LI):Int:=idxFrom 0 l
end Sp
namespace Sp
open Go
abbrev gW:=Bytes×Int×Unit
abbrev bT:=List gW×List aN×Int×Unit
instance:DecidableEq gW:=inferInstance
instance:DecidableEq (List gW):=inferInstance
instance:DecidableEq (List aN):=inferInstance
instance:DecidableEq (List aN×Int×Unit):=inferInstance
instance asJ:DecidableEq bT:=(inferInstance:DecidableEq (List gW×List aN×Int×Unit))
def usual:List gW:=[([97],1,()),([98],1,()),([110],2,()),([116],2,())]
def cu (f:aN):Prop:=f.2.2.2.2.1.length≤1000
def bn (s:bT):Prop:=s.1.length≤1000∧s.2.1.length≤1000∧∀ f∈s.2.1,cu f
def jh (n:Nat) (f:Nat→Bool):Bool:=(List.range n).all f
def jK (s:Bytes):Bool:=lower s&&decide (1≤(s.length:Int))&&decide ((s.length:Int)≤1)
def jS (k n:Int) (s:Bytes):Bool:=
 bif decide (k=0) then decide (n=0)&&decide (s=[])
 else bif decide (k=1) then decide (0≤n)&&decide (n≤999)&&decide (s=[])
 else bif decide (k=2) then iq s&&decide (n=0)
 else false
def kindOf:List gW→Bytes→Int
 |[],_=>0
 |f::r,s=>bif decide (f.1=s) then f.2.1 else kindOf r s
def fieldAt (fs:List gW) (i:Nat):gW:=fs.getD i ([],0,())
def kV (fs:List gW) (i:Nat):Bool:=
 jK (fieldAt fs i).1&&(decide (1≤(fieldAt fs i).2.1)&&decide ((fieldAt fs i).2.1≤2))&&!(decide (0<i)&&!Op.bytesLess (fieldAt fs (i-1)).1 (fieldAt fs i).1)
def fQ (fs:List gW):Bool:=jh fs.length (kV fs)&&decide ((fs.length:Int)≤5)
def jm (fs:List gW) (name:Bytes) (k n:Int) (s:Bytes):Bool:=jS k n s&&!decide (k=0)&&decide (k=kindOf fs name)
def dn (as:List fD) (i:Nat):fD:=as.getD i ([],0,0,[],())
def jW (fs:List gW) (as:List fD) (i:Nat):Bool:=
 jm fs (dn as i).1 (dn as i).2.1 (dn as i).2.2.1 (dn as i).2.2.2.1&&!(decide (0<i)&&!Op.bytesLess (dn as (i-1)).1 (dn as i).1)
def jT (fs:List gW) (as:List fD):Bool:=jh as.length (jW fs as)
def dm (fs:List gW) (f:aN):Bool:=
 jT fs f.2.2.2.2.1&&fQ fs&&(decide (1≤f.1)&&decide (f.1≤60))&&(decide (0≤f.2.1)&&decide (f.2.1≤2))&&(decide (0≤f.2.2.2.1)&&decide (f.2.2.2.1≤60))
def fileAt (fs:List aN) (i:Nat):aN:=fs.getD i (0,0,false,0,[],())
def kK (s:bT) (i:Nat):Bool:=
 dm s.1 (fileAt s.2.1 i)&&decide ((fileAt s.2.1 i).1<s.2.2.1)&&!(decide (0<i)&&!decide ((fileAt s.2.1 (i-1)).1<(fileAt s.2.1 i).1))
def ax (s:bT):Bool:=
 jh s.2.1.length (kK s)&&fQ s.1&&decide ((s.2.1.length:Int)≤12)&&(decide (1≤s.2.2.1)&&decide (s.2.2.1≤61))
def BN:Int→List aN→Int→Int
 |_,[],_=>-1
 |k,f::r,id=>bif decide (f.1=id) then k else BN (k+1) r id
def place (fs:List aN) (id:Int):Int:=BN 0 fs id
def apb (f:aN) (u:Int):Bool:=(decide (0≤u)&&decide (u≤2))&&(decide (f.2.1=u)||f.2.2.1)
def kY (f:aN) (u:Int):Bool:=(decide (0≤u)&&decide (u≤2))&&decide (f.2.1=u)
def wF (fs:List aN) (u:Int):List (Int×Unit):=(fs.filter fun f=>decide (f.2.1=u)).map fun f=>(f.1,())
def X6:aN:=(0,0,false,0,[],())
def aO (s:bT) (id:Int):aN×Bool:=
 bif decide (place s.2.1 id<0) then (X6,false) else (fileAt s.2.1 (place s.2.1 id).toNat,true)
def qE (name:Bytes) (b:fD):Bool:=!(b.1==name)
def rV (name:Bytes) (b:fD):Bool:=Op.bytesLess b.1 name||b.1==name
def Zq (as:List fD) (a:fD):List fD:=as.takeWhile (rV a.1)++a::as.dropWhile (rV a.1)
def kR (as:List fD) (name:Bytes) (k n:Int) (s:Bytes):List fD:=
 bif decide (k=0) then as.filter (qE name) else Zq (as.filter (qE name)) (name,k,n,s,())
def aH (s:bT) (f:aN):bT×Int×Bool:=
 let g:aN:=(s.2.2.1,f.2)
 bif ax s&&decide ((s.2.1.length:Int)<12)&&dm s.1 g then ((s.1,s.2.1++[g],s.2.2.1+1,()),s.2.2.1,true) else (s,0,false)
def aV (s:bT) (f:aN):bT×Bool:=
 bif ax s&&!decide (place s.2.1 f.1<0)&&dm s.1 f then ((s.1,s.2.1.set (place s.2.1 f.1).toNat f,s.2.2.1,()),true) else (s,false)
def aX (s:bT) (id:Int):bT×Bool:=
 bif ax s&&!decide (place s.2.1 id<0) then ((s.1,s.2.1.eraseIdx (place s.2.1 id).toNat,s.2.2.1,()),true) else (s,false)
def ES {α:Type} (p:α→Bool):Int→List α→Int
 |_,[]=>-1
 |k,f::r=>bif p f then k else ES p (k+1) r
def findAt {α:Type} (p:α→Bool) (l:List α):Int:=ES p 0 l
def fieldPlace (l:List gW) (name:Bytes):Int:=findAt (fun f=>f.1==name) l
end Sp
namespace Sp
theorem ajP:∀ (n m:Nat) (L:Nat→Nat),(∀ k,k<m→∃ j,j<n∧L j=k)→m≤n
 |0,m,L,h=>by
  rcases Nat.eq_zero_or_pos m with h0|h0
  · omega
  · obtain ⟨j,hj,_⟩:=h 0 h0;omega
 |n+1,m,L,h=>by
  by_cases hv:L n<m
  · have:=ajP n (m-1) (fun j=>if L n<L j then L j-1 else L j) fun k hk=>by
     by_cases h1:k<L n
     · obtain ⟨j,hj,e⟩:=h k (by omega)
       have:j≠n:=fun e2=>by subst e2;omega
       exact ⟨j,by omega,by show (if _ then _ else _)=_;rw [if_neg (by omega)];exact e⟩
     · obtain ⟨j,hj,e⟩:=h (k+1) (by omega)
       have:j≠n:=fun e2=>by subst e2;omega
       exact ⟨j,by omega,by show (if _ then _ else _)=_;rw [if_pos (by omega)];omega⟩
    omega
  · have:=ajP n m L fun k hk=>by
     obtain ⟨j,hj,e⟩:=h k hk
     have:j≠n:=fun e2=>by subst e2;omega
     exact ⟨j,by omega,e⟩
    omega
abbrev U4:=List (Nat×Nat×Nat)
def iV (E:U4) (L:Nat→Nat):Prop:=∀ e∈E,L e.2.1+e.2.2≤L e.1
def agU (E:U4) (n:Nat):Prop:=∀ e∈E,e.1<n∧e.2.1<n∧e.2.2≤1
def sumTo (n:Nat) (L:Nat→Nat):Nat:=match n with|0=>0|n+1=>sumTo n L+L n
theorem sumTo_le {L M:Nat→Nat}:∀ n,(∀ i,i<n→L i≤M i)→sumTo n L≤sumTo n M
 |0,_=>Nat.le_refl _
 |n+1,h=>Nat.add_le_add (sumTo_le n fun i hi=>h i (by omega)) (h n (by omega))
theorem ajQ {L M:Nat→Nat}:∀ n,(∀ i,i<n→L i≤M i)→(∃ i,i<n∧L i<M i)→sumTo n L<sumTo n M
 |0,_,⟨i,hi,_⟩=>by omega
 |n+1,h,⟨i,hi,hl⟩=>by
  have h1:=sumTo_le n fun j hj=>h j (Nat.lt_succ_of_lt hj)
  show sumTo n L+L n<sumTo n M+M n
  by_cases e:i=n
  · subst e;omega
  · have:=ajQ n (fun j hj=>h j (Nat.lt_succ_of_lt hj)) ⟨i,by omega,hl⟩
    have:=h n (by omega)
    omega
theorem SK {E:U4} {n:Nat} (hE:agU E n):∀ (s:Nat) (L:Nat→Nat),sumTo n L≤s→iV E L→∃ M,iV E M∧∀ i,i<n→M i<n
 |s,L,hs,hL=>by
  by_cases hall:∀ i,i<n→L i<n
  · exact ⟨L,hL,hall⟩
  · obtain ⟨i,hi⟩:=Classical.not_forall.1 hall
    have hi1:i<n∧n≤L i:=by
     by_cases h1:i<n
     · exact ⟨h1,Nat.le_of_not_lt fun h2=>hi fun _=>h2⟩
     · exact (hi fun h2=>(h1 h2).elim).elim
    have ar6:∃ k,k<n∧∀ j,j<n→L j≠k:=by
     refine Classical.byContradiction fun hno=>?_
     have:=ajP n (n+1) (fun j=>min (L j) n) fun k hk=>by
      by_cases h1:k<n
      · refine Classical.byContradiction fun h2=>hno ⟨k,h1,fun j hj e=>h2 ⟨j,hj,?_⟩⟩
        show min (L j) n=k
        omega
      · exact ⟨i,hi1.1,by show min (L i) n=k;omega⟩
     omega
    obtain ⟨k,hk,hno⟩:=ar6
    have hlt:sumTo n (fun j=>if k<L j then L j-1 else L j)<sumTo n L:=by
     refine ajQ n (fun j _=>?_) ⟨i,hi1.1,?_⟩
     · show (if _ then _ else _)≤_
       split
       · exact Nat.sub_le _ _
       · exact Nat.le_refl _
     · show (if _ then _ else _)<_;rw [if_pos (by omega)];omega
    match s,hs with
    |0,hs=>omega
    |s+1,hs=>
     refine SK hE s (fun j=>if k<L j then L j-1 else L j) (by omega) fun e he=>?_
     have h1:=hL e he
     obtain ⟨h2,h3,h4⟩:=hE e he
     have n1:=hno e.1 h2
     have n2:=hno e.2.1 h3
     show (if k<L e.2.1 then L e.2.1-1 else L e.2.1)+e.2.2≤(if k<L e.1 then L e.1-1 else L e.1)
     split<;>split<;>omega
theorem Ol {E:U4} {n:Nat} (hE:agU E n) (h:∃ L,iV E L):∃ M,iV E M∧∀ i,i<n→M i<n:=by
 obtain ⟨L,hL⟩:=h
 exact SK hE (sumTo n L) L (Nat.le_refl _) hL
structure Raises (E:U4) (n:Nat) (R:(Nat→Nat)→Nat→Nat):Prop where
 up:∀ L i,L i≤R L i
 fix:∀ L,(∀ i,i<n→R L i=L i)→iV E L
 below:∀ L M,iV E M→(∀ i,i<n→L i≤M i)→∀ i,i<n→R L i≤M i
 same:∀ L L',(∀ i,i<n→L i=L' i)→∀ i,i<n→R L i=R L' i
end Sp
namespace Sp
open Go
abbrev aq0:=List gW×List aN×Int×List aC×Unit
abbrev aqk:=Int×List gW×List aN×Int×List aC×Int×Unit
instance:DecidableEq (List bK):=inferInstance
instance:DecidableEq aC:=inferInstance
instance:DecidableEq (List aC):=inferInstance
instance:DecidableEq (List aC×Unit):=inferInstance
instance:DecidableEq (Int×List aC×Unit):=inferInstance
instance:DecidableEq (List aN×Int×List aC×Unit):=inferInstance
instance asN:DecidableEq aq0:=(inferInstance:DecidableEq (List gW×List aN×Int×List aC×Unit))
instance:DecidableEq (List aC×Int×Unit):=inferInstance
instance:DecidableEq (Int×List aC×Int×Unit):=inferInstance
instance:DecidableEq (List aN×Int×List aC×Int×Unit):=inferInstance
instance:DecidableEq (List gW×List aN×Int×List aC×Int×Unit):=inferInstance
instance asY:DecidableEq aqk:=(inferInstance:DecidableEq (Int×List gW×List aN×Int×List aC×Int×Unit))
instance:DecidableEq (List aqk):=inferInstance
def nodeAt (q:List bK) (i:Nat):bK:=q.getD i (0,0,0,[],0,0,[],())
def jI (n:bK):Bool:=n.1==6||n.1==7
def jA (n:bK):Bool:=n.1==8||n.1==9
def kD (n:bK) (a:Int):Bool:=
 let kids:=decide (0≤n.2.1)&&decide (n.2.1≤a-1)&&decide (0<a)
 let two:=decide (0≤n.2.2.1)&&decide (n.2.2.1≤a-1)
 let bare:=n.2.2.2.1==[]&&(n.2.2.2.2.1==0&&(n.2.2.2.2.2.1==0&&n.2.2.2.2.2.2.1==[]))
 let flat:=n.2.1==0&&n.2.2.1==0
 let valued:=jS n.2.2.2.2.1 n.2.2.2.2.2.1 n.2.2.2.2.2.2.1
 let void:=n.2.2.2.2.1==0&&(n.2.2.2.2.2.1==0&&n.2.2.2.2.2.2.1==[])
 bif n.1==1 then flat&&bare else bif n.1==2 then flat&&void&&jK n.2.2.2.1 else
 bif n.1==3 then flat&&jK n.2.2.2.1&&valued&&!(n.2.2.2.2.1==0) else bif n.1==4 then flat&&jK n.2.2.2.1&&valued&&n.2.2.2.2.1==1 else
 bif n.1==5 then kids&&n.2.2.1==0&&bare else bif n.1==6||n.1==7 then kids&&two&&bare else
 bif n.1==8||n.1==9 then flat&&void&&iq n.2.2.2.1 else false
def refsOf (a:Int) (n:bK):Nat:=(bif (jI n||n.1==5)&&n.2.1==a then 1 else 0)+(bif jI n&&n.2.2.1==a then 1 else 0)
def mY (q:List bK) (a:Int):Nat:=(q.map (refsOf a)).sum
def lX (q:List bK) (i:Nat):Bool:=kD (nodeAt q i) i&&!(decide ((i:Int)<(q.length:Int)-1)&&!(mY q i==1))
def bQ (q:List bK):Bool:=jh q.length (lX q)&&(decide (1≤(q.length:Int))&&decide ((q.length:Int)≤9))
def bG (d:List aC) (i:Nat):aC:=d.getD i ([],[],())
def jZ (d:List aC) (i:Nat):Bool:=iq (bG d i).1&&bQ (bG d i).2.1&&!(decide (0<i)&&!Op.bytesLess (bG d (i-1)).1 (bG d i).1)
def bF (d:List aC):Bool:=jh d.length (jZ d)&&decide ((d.length:Int)≤5)
def kH (q:List bK) (i:Nat) (out:List (Bool×Unit)):List (Bool×Unit):=
 let n:=nodeAt q i
 bif n.1==5 then out.set n.2.1.toNat (true,()) else bif jI n then (out.set n.2.1.toNat ((out.getD i (false,())).1,())).set n.2.2.1.toNat ((out.getD i (false,())).1,()) else out
def iW (q:List bK):Nat→List (Bool×Unit)→List (Bool×Unit)
 |0,out=>out
 |n+1,out=>iW q n (kH q n out)
def negated (q:List bK):List (Bool×Unit):=bif bQ q then iW q q.length (List.replicate q.length (false,())) else []
def fB (q:List bK) (neg:Bool):List Bytes:=(List.range (negated q).length).filterMap fun i=>bif jA (nodeAt q i)&&((negated q).getD i (false,())).1==neg then some (nodeAt q i).2.2.2.1 else none
def FM:Int→List aC→Bytes→Int
 |_,[],_=>-1
 |k,x::r,s=>bif x.1==s then k else FM (k+1) r s
def aJ (d:List aC) (s:Bytes):Int:=FM 0 d s
def dX (d:List aC):U4:=
 (List.range d.length).flatMap fun i=>
   ((fB (bG d i).2.1 false).filterMap fun s=>bif decide (0≤aJ d s) then some (i,(aJ d s).toNat,0) else none)++
   ((fB (bG d i).2.1 true).filterMap fun s=>bif decide (0≤aJ d s) then some (i,(aJ d s).toNat,1) else none)
open Classical in
noncomputable def ai (d:List aC):Bool:=bF d&&decide (∃ L,iV (dX d) L)
def dK (r:LS) (l:List Bytes):Prop:=r.length≤1000∧∀ s,(s,())∈r↔s∈l
def yH (d:List aC) (aI:List (Int×Unit)) (more:Int):LS→Int
 |[]=>0
 |x::r=>max (bif decide (0≤aJ d x.1) then (aI.getD (aJ d x.1).toNat (0,())).1+more else 0) (yH d aI more r)
def AB (l:LS) (s:Bytes):LS:=
 let n:=(l.takeWhile fun x=>Op.bytesLess x.1 s).length
 bif decide (n<l.length)&&(l.getD n ([],())).1==s then l else l.take n++[(s,())]++l.drop n
def raised (d:List aC) (aI r:List (Int×Unit)):Prop:=
 r.length=d.length∧(∀ i,i<d.length→(aI.getD i (0,())).1≤(r.getD i (0,())).1)∧(∀ B:Int,(∀ i,i<d.length→(aI.getD i (0,())).1≤B)→∀ i,i<d.length→(r.getD i (0,())).1≤B+5000)∧
 ((∀ i,i<d.length→(r.getD i (0,())).1=(aI.getD i (0,())).1)→iV (dX d) fun i=>(aI.getD i (0,())).1.toNat)∧
 ∀ M,iV (dX d) M→(∀ i,i<d.length→(aI.getD i (0,())).1≤M i)→∀ i,i<d.length→(r.getD i (0,())).1≤M i
def aA (d:List aC):Prop:=d.length≤1000∧∀ x∈d,x.2.1.length≤1000
end Sp
namespace Sp
open Go
end Sp
namespace Sp
open Go
theorem YX (s:Bytes):∀ (d:List aC) (k:Int),(FM k d s=-1∧∀ x∈d,x.1≠s)∨∃ n,n<d.length∧FM k d s=k+n∧(bG d n).1=s∧∀ i,i<n→(bG d i).1≠s
 |[],k=> .inl ⟨rfl,fun x hx=>by cases hx⟩
 |x::r,k=>by
  by_cases h:x.1=s
  · right
    refine ⟨0,by simp,?_,h,fun i hi=>by omega⟩
    rw [FM,beq_iff_eq.2 h];simp
  · rcases YX s r (k+1) with ⟨h1,h2⟩|⟨n,h1,h2,h3,h4⟩
    · left
      refine ⟨by rw [FM,beq_eq_false_iff_ne.2 h];exact h1,fun y hy=>?_⟩
      rcases List.mem_cons.1 hy with rfl|hy
      · exact h
      · exact h2 y hy
    · right
      refine ⟨n+1,by simp;omega,by rw [FM,beq_eq_false_iff_ne.2 h];show FM (k+1) r s=_;omega,h3,fun i hi=>?_⟩
      cases i with
      |zero=>exact h
      |succ i=>exact h4 i (by omega)
theorem pK (d:List aC) (s:Bytes):(aJ d s=-1∧∀ x∈d,x.1≠s)∨∃ n,n<d.length∧aJ d s=n∧(bG d n).1=s∧∀ i,i<n→(bG d i).1≠s:=by
 rcases YX s d 0 with h|⟨n,h1,h2,h3⟩
 · exact .inl h
 · exact .inr ⟨n,h1,by show FM 0 d s=_;omega,h3⟩
theorem Gy {d:List aC} {s:Bytes} (h:0≤aJ d s):aJ d s<d.length:=by
 rcases pK d s with ⟨h1,_⟩|⟨n,h1,h2,_⟩<;>omega
theorem zo {d:List aC} {i j m:Nat}:(i,j,m)∈dX d↔i<d.length∧∃ s,((m=0∧s∈fB (bG d i).2.1 false)∨(m=1∧s∈fB (bG d i).2.1 true))∧0≤aJ d s∧j=(aJ d s).toNat:=by
 unfold dX
 rw [List.mem_flatMap]
 constructor
 · rintro ⟨k,hk,h⟩
   rw [List.mem_range] at hk
   rcases List.mem_append.1 h with h|h
   all_goals
    obtain ⟨s,hs,e⟩:=List.mem_filterMap.1 h
    rw [cond_eq_ite] at e
    split at e
    · next hp=>
      have hp:0≤aJ d s:=of_decide_eq_true hp
      cases e
      exact ⟨hk,s,by first|exact .inl ⟨rfl,hs⟩|exact .inr ⟨rfl,hs⟩,hp,rfl⟩
    · cases e
 · rintro ⟨hi,s,h|h,hp,rfl⟩
   · obtain ⟨rfl,hs⟩:=h
     refine ⟨i,List.mem_range.2 hi,List.mem_append.2 (.inl (List.mem_filterMap.2 ⟨s,hs,?_⟩))⟩
     rw [decide_eq_true hp];rfl
   · obtain ⟨rfl,hs⟩:=h
     refine ⟨i,List.mem_range.2 hi,List.mem_append.2 (.inr (List.mem_filterMap.2 ⟨s,hs,?_⟩))⟩
     rw [decide_eq_true hp];rfl
theorem lq (d:List aC):agU (dX d) d.length:=by
 rintro ⟨i,j,m⟩ he
 obtain ⟨h1,s,h2,h3,h4⟩:=zo.1 he
 have:=Gy h3
 refine ⟨h1,?_,?_⟩
 · show j<_;omega
 · show m≤1;rcases h2 with ⟨h,_⟩|⟨h,_⟩<;>omega
def lv (l:List (Int×Unit)) (i:Nat):Int:=(l.getD i (0,())).1
theorem ajx {l:List (Int×Unit)} {i:Nat} (hi:i<l.length) (x:Int) (k:Nat):lv (l.set i (x,())) k=if k=i then x else lv l k:=by
 unfold lv
 rw [List.getD_eq_getElem?_getD,List.getD_eq_getElem?_getD]
 by_cases h:k=i
 · subst h;rw [List.getElem?_set_self hi,if_pos rfl];rfl
 · rw [List.getElem?_set_ne (fun e=>h e.symm),if_neg h]
theorem XV {l:List (Int×Unit)} {i:Nat} (hi:i<l.length):(lv l i,())∈l:=by
 unfold lv
 rw [List.getD_eq_getElem?_getD,List.getElem?_eq_getElem hi]
 exact List.getElem_mem hi
theorem ajw {l:List (Int×Unit)} {p:Int→Prop} (h:∀ i,i<l.length→p (lv l i)):∀ x∈l,p x.1:=by
 intro x hx
 obtain ⟨i,hi,e⟩:=List.getElem_of_mem hx
 have:=h i hi
 unfold lv at this
 rw [List.getD_eq_getElem?_getD,List.getElem?_eq_getElem hi] at this
 rw [← e];exact this
theorem ano {a b:List (Int×Unit)} (hl:a.length=b.length) (h:∀ i,i<a.length→lv a i=lv b i):a=b:=by
 refine List.ext_getElem hl fun i h1 h2=>?_
 have:=h i h1
 unfold lv at this
 rw [List.getD_eq_getElem?_getD,List.getD_eq_getElem?_getD,List.getElem?_eq_getElem h1,List.getElem?_eq_getElem h2] at this
 exact Prod.ext this rfl
structure JF (d:List aC) (aI cur:List (Int×Unit)) (g:Int) (P:Nat×Nat×Nat→Prop):Prop where
 len:cur.length=d.length
 up:∀ i,i<d.length→lv aI i≤lv cur i
 grow:∀ B,(∀ i,i<d.length→lv aI i≤B)→∀ i,i<d.length→lv cur i≤B+g
 fix:(∀ i,i<d.length→lv cur i=lv aI i)→∀ e,P e→lv aI e.2.1+e.2.2≤lv aI e.1
 below:∀ M,iV (dX d) M→(∀ i,i<d.length→lv aI i≤M i)→∀ i,i<d.length→lv cur i≤M i
theorem JF.start {d:List aC} {aI:List (Int×Unit)} (h:aI.length=d.length):JF d aI aI 0 fun _=>False:=
 ⟨h,fun _ _=>Int.le_refl _,fun B hB i hi=>by have:=hB i hi;omega,fun _ e he=>he.elim,fun _ _ h=>h⟩
theorem JF.weaken {d:List aC} {aI cur:List (Int×Unit)} {g g':Int} {P P':Nat×Nat×Nat→Prop} (h:JF d aI cur g P) (hg:g≤g') (hP:∀ e,P' e→P e):JF d aI cur g' P':=
 ⟨h.len,h.up,fun B hB i hi=>by have:=h.grow B hB i hi;omega,fun hx e he=>h.fix hx e (hP e he),h.below⟩
theorem JF.still {d:List aC} {aI cur:List (Int×Unit)} {g:Int} {P:Nat×Nat×Nat→Prop} (h:JF d aI cur g P) {i j m:Nat} (he:(i,j,m)∈dX d) (hle:lv cur j+m≤lv cur i):JF d aI cur g fun e=>P e∨e=(i,j,m):=by
 obtain ⟨h1,h2,_⟩:=lq d _ he
 refine ⟨h.len,h.up,h.grow,fun hx e hp=>?_,h.below⟩
 rcases hp with hp|rfl
 · exact h.fix hx e hp
 · have a:=hx i h1
   have b:=hx j h2
   show lv aI j+m≤lv aI i
   omega
theorem JF.set {d:List aC} {aI cur:List (Int×Unit)} {g:Int} {P:Nat×Nat×Nat→Prop} (h:JF d aI cur g P) {i j m:Nat} (he:(i,j,m)∈dX d) (hlt:lv cur i<lv cur j+m):JF d aI (cur.set i (lv cur j+m,())) (g+m) fun e=>P e∨e=(i,j,m):=by
 obtain ⟨h1,h2,_⟩:=lq d _ he
 have h1:i<d.length:=h1
 have h2:j<d.length:=h2
 have hl:=h.len
 have hs:=fun k=>ajx (l:=cur) (i:=i) (by omega) (lv cur j+m) k
 refine ⟨by simp;omega,fun k hk=>?_,fun B hB k hk=>?_,fun hx e hp=>?_,fun M hM hb k hk=>?_⟩
 · rw [hs];have a:=h.up k hk;split
   · next e=>subst e;omega
   · exact a
 · rw [hs]
   have a:=h.grow B hB k hk
   have b:=h.grow B hB j h2
   split<;>omega
 · have:=hx i h1
   rw [hs,if_pos rfl] at this
   have:=h.up i h1
   omega
 · rw [hs]
   split
   · next e=>
     subst e
     have a:=h.below M hM hb j h2
     have b:=hM _ he
     have b:M j+m≤M k:=b
     omega
   · exact h.below M hM hb k hk
theorem JF.raised {d:List aC} {aI cur:List (Int×Unit)} {g:Int} {P:Nat×Nat×Nat→Prop} (h:JF d aI cur g P) (hg:g≤5000) (hP:∀ e∈dX d,P e) (h0:∀ i,i<d.length→0≤lv aI i):raised d aI cur:=by
 refine ⟨h.len,h.up,fun B hB i hi=>by have:=h.grow B hB i hi;show lv cur i≤_;omega,fun hx e he=>?_,h.below⟩
 have a:=h.fix hx e (hP e he)
 obtain ⟨h1,h2,_⟩:=lq d _ he
 have b:=h0 _ h1
 have c:=h0 _ h2
 show (lv aI e.2.1).toNat+e.2.2≤(lv aI e.1).toNat
 omega
theorem aft (d:List aC) (aI:List (Int×Unit)) (hl:aI.length=d.length):∀ (E:U4),(∀ e∈E,e∈dX d)→∃ cur:List (Int×Unit),cur.length=d.length∧(∀ i,i<d.length→lv aI i≤lv cur i∧(lv cur i=lv aI i∨∃ e∈E,e.1=i∧lv cur i=lv aI e.2.1+e.2.2))∧∀ e∈E,lv aI e.2.1+e.2.2≤lv cur e.1
 |[],_=>⟨aI,hl,fun i hi=>⟨Int.le_refl _, .inl rfl⟩,fun e he=>by cases he⟩
 |e::E,hE=>by
  obtain ⟨cur,h1,h2,h3⟩:=aft d aI hl E fun x hx=>hE x (List.mem_cons_of_mem _ hx)
  obtain ⟨g1,g2,_⟩:=lq d e (hE e List.mem_cons_self)
  by_cases h:lv cur e.1<lv aI e.2.1+e.2.2
  · have hs:=fun k=>ajx (l:=cur) (i:=e.1) (by omega) (lv aI e.2.1+e.2.2) k
    refine ⟨cur.set e.1 (lv aI e.2.1+e.2.2,()),by simp;omega,fun i hi=>?_,fun x hx=>?_⟩
    · rw [hs]
      have:=h2 i hi
      split
      · next hi'=>exact ⟨by rw [hi'] at this ⊢;omega, .inr ⟨e,List.mem_cons_self,hi'.symm,rfl⟩⟩
      · refine ⟨this.1,this.2.imp_right fun ⟨x,hx,hy⟩=>⟨x,List.mem_cons_of_mem _ hx,hy⟩⟩
    · rw [hs]
      rcases List.mem_cons.1 hx with rfl|hx
      · rw [if_pos rfl];omega
      · have:=h3 x hx
        split
        · next he=>rw [he] at this;omega
        · exact this
  · refine ⟨cur,h1,fun i hi=>?_,fun x hx=>?_⟩
    · have:=h2 i hi
      exact ⟨this.1,this.2.imp_right fun ⟨x,hx,hy⟩=>⟨x,List.mem_cons_of_mem _ hx,hy⟩⟩
    · rcases List.mem_cons.1 hx with rfl|hx
      · omega
      · exact h3 x hx
theorem akB (d:List aC) (aI:List (Int×Unit)) (hl:aI.length=d.length) (h0:∀ i,i<d.length→0≤lv aI i):∃ cur,raised d aI cur:=by
 obtain ⟨cur,h1,h2,h3⟩:=aft d aI hl (dX d) fun _ h=>h
 refine ⟨cur,h1,fun i hi=>(h2 i hi).1,fun B hB i hi=>?_,fun hx e he=>?_,fun M hM hb i hi=>?_⟩
 · show lv cur i≤_
   rcases (h2 i hi).2 with h|⟨e,he,rfl,h⟩
   · rw [h];have:=hB i hi;show (aI.getD i (0,())).1≤_;omega
   · obtain ⟨_,g2,g3⟩:=lq d e he
     have:lv aI e.2.1≤B:=hB _ g2
     omega
 · obtain ⟨g1,g2,_⟩:=lq d e he
   have a:=h3 e he
   have b:=h0 _ g1
   have c:=h0 _ g2
   have x:lv cur e.1=lv aI e.1:=hx _ g1
   show (lv aI e.2.1).toNat+e.2.2≤(lv aI e.1).toNat
   omega
 · show lv cur i≤_
   rcases (h2 i hi).2 with h|⟨e,he,rfl,h⟩
   · rw [h];exact hb i hi
   · obtain ⟨_,g2,_⟩:=lq d e he
     have a:lv aI e.2.1≤M e.2.1:=hb _ g2
     have b:=hM e he
     omega
theorem Io {d:List aC} {aI:List (Int×Unit)} {more:Int}:∀ (r:LS) (B:Int),yH d aI more r≤B↔0≤B∧∀ x∈r,0≤aJ d x.1→lv aI (aJ d x.1).toNat+more≤B
 |[],B=>by simp [yH]
 |x::r,B=>by
  have ih:=Io (d:=d) (aI:=aI) (more:=more) r B
  rw [yH]
  have e:∀ a b:Int,max a b≤B↔a≤B∧b≤B:=fun a b=>by omega
  rw [e,ih]
  simp only [List.mem_cons,forall_eq_or_imp]
  by_cases h:0≤aJ d x.1
  · rw [decide_eq_true h]
    show lv aI _+more≤B∧_↔_
    constructor
    · exact fun ⟨a,b,c⟩=>⟨b,fun _=>a,c⟩
    · exact fun ⟨a,b,c⟩=>⟨b h,a,c⟩
  · rw [decide_eq_false h]
    show (0:Int)≤B∧_↔_
    constructor
    · exact fun ⟨a,b,c⟩=>⟨b,fun h'=>(h h').elim,c⟩
    · exact fun ⟨a,b,c⟩=>⟨a,a,c⟩
def zn (l:List (Int×Unit)):Nat→Int
 |0=>0
 |n+1=>zn l n+lv l n
theorem acn {a b:List (Int×Unit)}:∀ n,(∀ i,i<n→lv a i≤lv b i)→zn a n≤zn b n
 |0,_=>Int.le_refl _
 |n+1,h=>Int.add_le_add (acn n fun i hi=>h i (by omega)) (h n (by omega))
theorem ack {a b:List (Int×Unit)}:∀ n,(∀ i,i<n→lv a i≤lv b i)→(∃ i,i<n∧lv a i<lv b i)→zn a n<zn b n
 |0,_,⟨i,hi,_⟩=>by omega
 |n+1,h,⟨i,hi,hl⟩=>by
  have h1:=acn n fun j hj=>h j (Nat.lt_succ_of_lt hj)
  show zn a n+lv a n<zn b n+lv b n
  by_cases e:i=n
  · subst e;omega
  · have:=ack n (fun j hj=>h j (Nat.lt_succ_of_lt hj)) ⟨i,by omega,hl⟩
    have:=h n (by omega)
    omega
theorem Qp {a:List (Int×Unit)} {b:Nat}:∀ n:Nat,(∀ i,i<n→lv a i≤b)→zn a n≤(n*b:Nat)
 |0,_=>by simp [zn]
 |n+1,h=>by
  have h1:=Qp n fun i hi=>h i (Nat.lt_succ_of_lt hi)
  have h2:=h n (by omega)
  show zn a n+lv a n≤((n+1)*b:Nat)
  rw [Nat.succ_mul];omega
theorem XJ {a:List (Int×Unit)}:∀ n:Nat,(∀ i,i<n→0≤lv a i)→0≤zn a n
 |0,_=>Int.le_refl _
 |n+1,h=>Int.add_nonneg (XJ n fun i hi=>h i (by omega)) (h n (by omega))
theorem jX {d:List aC}:ai d=true↔bF d=true∧∃ L,iV (dX d) L:=by
 unfold ai
 simp
theorem Ue {d:List aC} (h:bF d=true):d.length≤5:=by
 unfold bF at h
 simp only [Bool.and_eq_true,decide_eq_true_eq] at h
 omega
end Sp
namespace Sp
abbrev Ext (ι α:Type):=ι→α→Bool
structure Sys (ι α:Type) where
 T:ι→Ext ι α→α→Prop
 pos:ι→ι→Prop
 neg:ι→ι→Prop
 mono:∀ i X Y,(∀ j,pos i j→∀ x,X j x=true→Y j x=true)→(∀ j,neg i j→∀ x,X j x=Y j x)→∀ x,T i X x→T i Y x
def aiq {ι α:Type} (S:Sys ι α) (N:ι→Prop) (aI:ι→Nat):Prop:=∀ i j,N i→N j→(S.pos i j→aI j≤aI i)∧(S.neg i j→aI j<aI i)
structure Eval {ι α:Type} (S:Sys ι α) (N:ι→Prop) (aI:ι→Nat) (X:Ext ι α):Prop where
 fix:∀ i,N i→∀ x,X i x=true↔S.T i X x
 least:∀ k (Y:Ext ι α),(∀ i,¬ (N i∧aI i=k)→∀ x,Y i x=X i x)→(∀ i,N i→aI i=k→∀ x,S.T i Y x→Y i x=true)→∀ i,N i→aI i=k→∀ x,X i x=true→Y i x=true
open Classical in
theorem alh {ι α:Type} {P:ι→Prop} {A B:Ext ι α}:∃ Y:Ext ι α,(∀ i x,Y i x=true↔A i x=true∧(P i→B i x=true))∧∀ i,¬ P i→∀ x,Y i x=A i x:=by
 have h:∀ i x,decide (A i x=true∧(P i→B i x=true))=true↔A i x=true∧(P i→B i x=true):=fun i x=>decide_eq_true_iff
 refine ⟨fun i x=>decide (A i x=true∧(P i→B i x=true)),h,fun i hi x=>?_⟩
 rw [Bool.eq_iff_iff,h]
 exact ⟨fun h=>h.1,fun h=>⟨h,fun h'=>(hi h').elim⟩⟩
theorem QO {ι α:Type} {S1 S2:Sys ι α} {N1 N2 U:ι→Prop} {l1 l2:ι→Nat} {X1 X2:Ext ι α}
 (h1:Eval S1 N1 l1 X1) (h2:Eval S2 N2 l2 X2) (s1:aiq S1 N1 l1) (s2:aiq S2 N2 l2) (u1:∀ i,U i→N1 i) (u2:∀ i,U i→N2 i)
 (hT:∀ i,U i→∀ X x,S1.T i X x↔S2.T i X x) (hp:∀ i,U i→∀ j,S2.pos i j→S1.pos i j) (hn:∀ i,U i→∀ j,S2.neg i j→S1.neg i j)
 (hc:∀ i,U i→∀ j,S1.pos i j∨S1.neg i j→U j∨∀ x,X1 j x=X2 j x):∀ i,U i→∀ x,X1 i x=X2 i x:=by
 have key:∀ k,∀ i,U i→l1 i=k→∀ x,X1 i x=X2 i x:=by
  intro k
  induction k using Nat.strongRecOn with
  |_ k ih=>
   have below:∀ j,U j→l1 j<k→∀ x,X1 j x=X2 j x:=fun j hj hl=>ih (l1 j) hl j hj rfl
   have aq1:∀ i,U i→l1 i=k→∀ x,X1 i x=true→X2 i x=true:=by
    obtain ⟨Y,hY,WX⟩:=alh (P:=fun i=>U i∧l1 i=k) (A:=X1) (B:=X2)
    have:=h1.least k Y (fun i hi=>WX i fun h=>hi ⟨u1 i h.1,h.2⟩) fun i hN hl x hx=>by
     have ajR:∀ j,S1.neg i j→∀ x,Y j x=X1 j x:=fun j hj=>WX j fun h=>by
      have:=(s1 i j hN (u1 j h.1)).2 hj;omega
     refine (hY i x).2 ⟨(h1.fix i hN x).2 (S1.mono i Y X1 (fun j _ y hy=>((hY j y).1 hy).1) ajR x hx),fun hU=>?_⟩
     refine (h2.fix i (u2 i hU.1) x).2 ((hT i hU.1 X2 x).1 (S1.mono i Y X2 (fun j hj y hy=>?_) (fun j hj y=>?_) x hx))
     · have hy:=(hY j y).1 hy
       rcases hc i hU.1 j (.inl hj) with h|h
       · have hl2:=(s1 i j hN (u1 j h)).1 hj
         rcases Nat.lt_or_ge (l1 j) k with h3|h3
         · rw [← below j h h3];exact hy.1
         · exact hy.2 ⟨h,by omega⟩
       · rw [← h];exact hy.1
     · rw [ajR j hj]
       rcases hc i hU.1 j (.inr hj) with h|h
       · exact below j h (by have:=(s1 i j hN (u1 j h)).2 hj;omega) y
       · exact h y
    exact fun i hU hl x hx=>((hY i x).1 (this i (u1 i hU) hl x hx)).2 ⟨hU,hl⟩
   have aq2:∀ m,∀ i,U i→l1 i=k→l2 i=m→∀ x,X2 i x=true→X1 i x=true:=by
    intro m
    induction m using Nat.strongRecOn with
    |_ m ih2=>
     obtain ⟨Y,hY,WX⟩:=alh (P:=fun i=>U i∧l1 i=k∧l2 i=m) (A:=X2) (B:=X1)
     have:=h2.least m Y (fun i hi=>WX i fun h=>hi ⟨u2 i h.1,h.2.2⟩) fun i hN hl x hx=>by
      have ajR:∀ j,S2.neg i j→∀ x,Y j x=X2 j x:=fun j hj=>WX j fun h=>by
       have:=(s2 i j hN (u2 j h.1)).2 hj;omega
      refine (hY i x).2 ⟨(h2.fix i hN x).2 (S2.mono i Y X2 (fun j _ y hy=>((hY j y).1 hy).1) ajR x hx),fun hU=>?_⟩
      refine (h1.fix i (u1 i hU.1) x).2 ((hT i hU.1 X1 x).2 (S2.mono i Y X1 (fun j hj y hy=>?_) (fun j hj y=>?_) x hx))
      · have hy:=(hY j y).1 hy
        have hj1:=hp i hU.1 j hj
        rcases hc i hU.1 j (.inl hj1) with h|h
        · have g1:=(s1 i j (u1 i hU.1) (u1 j h)).1 hj1
          have g2:=(s2 i j hN (u2 j h)).1 hj
          rcases Nat.lt_or_ge (l1 j) k with h3|h3
          · rw [below j h h3];exact hy.1
          · rcases Nat.lt_or_ge (l2 j) m with h4|h4
            · exact ih2 (l2 j) h4 j h (by omega) rfl y hy.1
            · exact hy.2 ⟨h,by omega,by omega⟩
        · rw [h];exact hy.1
      · rw [ajR j hj]
        have hj1:=hn i hU.1 j hj
        rcases hc i hU.1 j (.inr hj1) with h|h
        · exact (below j h (by have:=(s1 i j (u1 i hU.1) (u1 j h)).2 hj1;omega) y).symm
        · exact (h y).symm
     exact fun i hU hl1 hl2 x hx=>((hY i x).1 (this i (u2 i hU) hl2 x hx)).2 ⟨hU,hl1,hl2⟩
   exact fun i hU hl x=>Bool.eq_iff_iff.2 ⟨aq1 i hU hl x,aq2 (l2 i) i hU hl rfl x⟩
 exact fun i hU x=>key (l1 i) i hU rfl x
end Sp
namespace Sp
open Go
abbrev dL:=Bytes×List (Int×Unit)×Unit
abbrev BX:=Ext Bytes Int
def dB:List fD→Bytes→ajy
 |[],_=>(0,0,[],())
 |a::r,s=>bif a.1==s then (a.2.1,a.2.2.1,a.2.2.2.1,()) else dB r s
def fK:List dL→Bytes→List (Int×Unit)
 |[],_=>[]
 |x::r,s=>bif x.1==s then x.2.1 else fK r s
def fG (l:List (Int×Unit)) (x:Int):Bool:=l.any fun y=>y.1==x
def bD (r:List dL):BX:=fun s x=>fG (fK r s) x
theorem Iu {l:List (Int×Unit)} {x:Int}:fG l x=true↔(x,())∈l:=by
 unfold fG
 rw [List.any_eq_true]
 exact ⟨fun ⟨y,hy,h⟩=>by rw [← beq_iff_eq.1 h];exact hy,fun h=>⟨_,h,beq_iff_eq.2 rfl⟩⟩
def iJ (n:bK) (f:aN) (X:BX):Bool:=
 bif n.1==2 then !((dB f.2.2.2.2.1 n.2.2.2.1).1==0) else
 bif n.1==3 then decide (dB f.2.2.2.2.1 n.2.2.2.1=(n.2.2.2.2.1,n.2.2.2.2.2.1,n.2.2.2.2.2.2.1,())) else
 bif n.1==4 then (dB f.2.2.2.2.1 n.2.2.2.1).1==1&&decide ((dB f.2.2.2.2.1 n.2.2.2.1).2.1<n.2.2.2.2.2.1) else
 bif n.1==8 then X n.2.2.2.1 f.1 else
 bif n.1==9 then !(f.2.2.2.1==0)&&X n.2.2.2.1 f.2.2.2.1 else true
def val (q:List bK) (f:aN) (X:BX) (a:Nat):Bool:=
 if (nodeAt q a).1=5 then (if h:(nodeAt q a).2.1.toNat<a then !val q f X (nodeAt q a).2.1.toNat else true)
 else if (nodeAt q a).1=6 then (if h:(nodeAt q a).2.1.toNat<a∧(nodeAt q a).2.2.1.toNat<a then val q f X (nodeAt q a).2.1.toNat&&val q f X (nodeAt q a).2.2.1.toNat else true)
 else if (nodeAt q a).1=7 then (if h:(nodeAt q a).2.1.toNat<a∧(nodeAt q a).2.2.1.toNat<a then val q f X (nodeAt q a).2.1.toNat||val q f X (nodeAt q a).2.2.1.toNat else true)
 else iJ (nodeAt q a) f X
termination_by a
decreasing_by all_goals omega
theorem KO (q:List bK) (f:aN) (X:BX) (a:Nat):val q f X a=
 if (nodeAt q a).1=5 then (if h:(nodeAt q a).2.1.toNat<a then !val q f X (nodeAt q a).2.1.toNat else true)
 else if (nodeAt q a).1=6 then (if h:(nodeAt q a).2.1.toNat<a∧(nodeAt q a).2.2.1.toNat<a then val q f X (nodeAt q a).2.1.toNat&&val q f X (nodeAt q a).2.2.1.toNat else true)
 else if (nodeAt q a).1=7 then (if h:(nodeAt q a).2.1.toNat<a∧(nodeAt q a).2.2.1.toNat<a then val q f X (nodeAt q a).2.1.toNat||val q f X (nodeAt q a).2.2.1.toNat else true)
 else iJ (nodeAt q a) f X:=by rw [val]
def iI (q:List bK) (f:aN) (X:BX):Bool:=bQ q&&val q f X (q.length-1)
def sel (fs:List aN) (q:List bK) (X:BX):List (Int×Unit):=(fs.filter fun f=>iI q f X).map fun f=>(f.1,())
def Dl (q:List bK) (i:Nat):Bool:=((negated q).getD i (false,())).1
theorem Ot {q:List bK} (h:bQ q=true) {i:Nat} (hi:i<q.length):kD (nodeAt q i) i=true∧((i:Int)<(q.length:Int)-1→mY q i=1):=by
 unfold bQ at h
 rw [Bool.and_eq_true] at h
 have h1:lX q i=true:=by
  have:=h.1
  unfold jh at this
  exact List.all_eq_true.1 this i (List.mem_range.2 hi)
 unfold lX at h1
 rw [Bool.and_eq_true] at h1
 refine ⟨h1.1,fun hl=>?_⟩
 have h2:=h1.2
 rw [decide_eq_true hl] at h2
 simpa using h2
theorem Gu {q:List bK} (h:bQ q=true):1≤q.length∧q.length≤9:=by
 unfold bQ at h
 simp only [Bool.and_eq_true,decide_eq_true_eq] at h
 omega
theorem abl {n:bK} {a:Nat} (h:kD n a=true) (hn:n.1=5∨n.1=6∨n.1=7):0≤n.2.1∧n.2.1.toNat<a:=by
 unfold kD at h
 rcases hn with e|e|e<;>simp [e] at h<;>omega
theorem Ns {n:bK} {a:Nat} (h:kD n a=true) (hn:n.1=6∨n.1=7):0≤n.2.2.1∧n.2.2.1.toNat<a:=by
 unfold kD at h
 rcases hn with e|e<;>simp [e] at h<;>omega
theorem ali {α:Type} (g:α→Nat):∀ (l:List α),(l.map g).sum=1→∀ i j,i<l.length→j<l.length→i≠j→∀ d,1≤g (l.getD i d)→g (l.getD j d)=0
 |[],_,i,_,hi,_,_,_,_=>by simp at hi
 |x::r,h,i,j,hi,hj,hne,d,hg=>by
  rw [List.map_cons,List.sum_cons] at h
  have mem:∀ (l:List α) k,k<l.length→g (l.getD k d)≤(l.map g).sum:=by
   intro l
   induction l with
   |nil=>intro k hk;simp at hk
   |cons y t ih=>
    intro k hk
    rw [List.map_cons,List.sum_cons]
    cases k with
    |zero=>exact Nat.le_add_right _ _
    |succ k=>exact Nat.le_trans (ih k (by simpa using hk)) (Nat.le_add_left _ _)
  cases i with
  |zero=>
   cases j with
   |zero=>exact (hne rfl).elim
   |succ j=>
    have h1:1≤g x:=hg
    have:=mem r j (by simpa using hj)
    show g (r.getD j d)=0
    omega
  |succ i=>
   have h1:1≤g (r.getD i d):=hg
   have h2:=mem r i (by simpa using hi)
   cases j with
   |zero=>show g x=0;omega
   |succ j=>exact ali g r (by omega) i j (by simpa using hi) (by simpa using hj) (by omega) d hg
theorem Jm {q:List bK} {p:Nat}:∀ (n:Nat) (out:List (Bool×Unit)),(∀ i,i<n→((nodeAt q i).1=5∨jI (nodeAt q i)=true→(nodeAt q i).2.1.toNat≠p)∧(jI (nodeAt q i)=true→(nodeAt q i).2.2.1.toNat≠p))→
 (iW q n out).getD p (false,())=out.getD p (false,())
 |0,_,_=>rfl
 |n+1,out,h=>by
  have ih:=Jm n (kH q n out) fun i hi=>h i (by omega)
  show (iW q n (kH q n out)).getD p (false,())=_
  rw [ih]
  have hs:∀ (l:List (Bool×Unit)) k x,k≠p→(l.set k x).getD p (false,())=l.getD p (false,()):=fun l k x hk=>by
   rw [List.getD_eq_getElem?_getD,List.getElem?_set_ne hk,← List.getD_eq_getElem?_getD]
  obtain ⟨h1,h2⟩:=h n (by omega)
  unfold kH
  dsimp only
  cases e5:((nodeAt q n).1==5) with
  |true=>exact hs _ _ _ (h1 (.inl (beq_iff_eq.1 e5)))
  |false=>
   cases e2:jI (nodeAt q n) with
   |true=>exact (hs _ _ _ (h2 e2)).trans (hs _ _ _ (h1 (.inr e2)))
   |false=>rfl
theorem Gx (q:List bK):∀ (n:Nat) (out:List (Bool×Unit)),(iW q n out).length=out.length
 |0,_=>rfl
 |n+1,out=>by
  show (iW q n (kH q n out)).length=_
  rw [Gx q n]
  unfold kH
  dsimp only
  cases (nodeAt q n).1==5<;>cases jI (nodeAt q n)<;>simp
theorem zq {n:bK}:jI n=true↔n.1=6∨n.1=7:=by
 unfold jI;simp
theorem Vq (q:List bK):∀ (k m:Nat) (out:List (Bool×Unit)),∃ mid:List (Bool×Unit),mid.length=out.length∧iW q (m+k) out=iW q m mid
 |0,_,out=>⟨out,rfl,rfl⟩
 |k+1,m,out=>by
  obtain ⟨mid,h1,h2⟩:=Vq q k m (kH q (m+k) out)
  have hl:(kH q (m+k) out).length=out.length:=by
   unfold kH
   dsimp only
   cases (nodeAt q (m+k)).1==5<;>cases jI (nodeAt q (m+k))<;>simp
  exact ⟨mid,h1.trans hl,h2⟩
theorem Oq {q:List bK} (h:bQ q=true) {i:Nat} (hi:i<q.length):((nodeAt q i).1=5∨jI (nodeAt q i)=true→0≤(nodeAt q i).2.1∧(nodeAt q i).2.1.toNat<i)∧(jI (nodeAt q i)=true→0≤(nodeAt q i).2.2.1∧(nodeAt q i).2.2.1.toNat<i):=by
 have h1:=(Ot h hi).1
 refine ⟨fun h2=>?_,fun h2=>Ns h1 (zq.1 h2)⟩
 rcases h2 with h2|h2
 · exact abl h1 (.inl h2)
 · exact abl h1 (.inr (zq.1 h2))
theorem amq {q:List bK} (h:bQ q=true) {i j p:Nat} (hi:i<q.length) (hj:j<q.length) (hne:i≠j) (hp:p<i) (hr:1≤refsOf p (nodeAt q i)):refsOf p (nodeAt q j)=0:=
 ali (refsOf p) q ((Ot h (by omega)).2 (by omega)) i j hi hj hne _ hr
theorem akC {p:Nat} {n:bK} (h:refsOf p n=0) (h0:((n.1=5∨jI n=true)→0≤n.2.1)∧(jI n=true→0≤n.2.2.1)):(n.1=5∨jI n=true→n.2.1.toNat≠p)∧(jI n=true→n.2.2.1.toNat≠p):=by
 unfold refsOf at h
 refine ⟨fun h1 h2=>?_,fun h1 h2=>?_⟩
 · have h3:=h0.1 h1
   have h4:((jI n||n.1==5)&&n.2.1==(p:Int))=true:=by
    have:(jI n||n.1==5)=true:=by rcases h1 with h1|h1<;>simp [h1]
    rw [this];simp;omega
   rw [h4] at h
   simp at h
 · have h3:=h0.2 h1
   have h4:(jI n&&n.2.2.1==(p:Int))=true:=by
    rw [h1];simp;omega
   rw [h4] at h
   simp at h
theorem abm {p:Nat} {n:bK} (h:n.1=5∨jI n=true) (h0:0≤n.2.1) (e:n.2.1.toNat=p):1≤refsOf p n:=by
 unfold refsOf
 have h4:((jI n||n.1==5)&&n.2.1==(p:Int))=true:=by
  have:(jI n||n.1==5)=true:=by rcases h with h1|h1<;>simp [h1]
  rw [this];simp;omega
 rw [h4];simp
theorem ajS {p:Nat} {n:bK} (h:jI n=true) (h0:0≤n.2.2.1) (e:n.2.2.1.toNat=p):1≤refsOf p n:=by
 unfold refsOf
 have h4:(jI n&&n.2.2.1==(p:Int))=true:=by rw [h];simp;omega
 rw [h4];simp
theorem U5 {l:List (Bool×Unit)} {k p:Nat} {x:Bool×Unit} (hk:k<l.length):(l.set k x).getD p (false,())=if k=p then x else l.getD p (false,()):=by
 rw [List.getD_eq_getElem?_getD,List.getElem?_set]
 by_cases h:k=p
 · subst h;simp [hk]
 · simp [h]
theorem amr {q:List bK} (h:bQ q=true) {i:Nat} (hi:i<q.length):
 ((nodeAt q i).1=5→Dl q (nodeAt q i).2.1.toNat=true)∧(jI (nodeAt q i)=true→Dl q (nodeAt q i).2.1.toNat=Dl q i∧Dl q (nodeAt q i).2.2.1.toNat=Dl q i):=by
 have hn:negated q=iW q q.length (List.replicate q.length (false,())):=by unfold negated;rw [h];rfl
 obtain ⟨mid,hm1,hm2⟩:=Vq q (q.length-(i+1)) (i+1) (List.replicate q.length (false,()))
 rw [show i+1+(q.length-(i+1))=q.length by omega,← hn] at hm2
 have hml:mid.length=q.length:=by rw [hm1];simp
 have hm3:negated q=iW q i (kH q i mid):=hm2
 obtain ⟨k1,k2⟩:=Oq h hi
 have keep:∀ p,p<i→1≤refsOf p (nodeAt q i)→Dl q p=((kH q i mid).getD p (false,())).1:=fun p hp hr=>by
  unfold Dl
  rw [hm3,Jm i]
  intro j hj
  have hjl:j<q.length:=by omega
  obtain ⟨g1,g2⟩:=Oq h hjl
  exact akC (amq h hi hjl (by omega) hp hr) ⟨fun z=>(g1 z).1,fun z=>(g2 z).1⟩
 have self:Dl q i=(mid.getD i (false,())).1:=by
  unfold Dl
  rw [hm2,Jm (i+1)]
  intro j hj
  obtain ⟨g1,g2⟩:=Oq h (show j<q.length by omega)
  exact ⟨fun z=>by have:=(g1 z).2;omega,fun z=>by have:=(g2 z).2;omega⟩
 refine ⟨fun h5=>?_,fun h2=>?_⟩
 · obtain ⟨a,b⟩:=k1 (.inl h5)
   rw [keep _ b (abm (.inl h5) a rfl)]
   unfold kH
   dsimp only
   rw [beq_iff_eq.2 h5]
   show ((mid.set _ (true,())).getD _ (false,())).1=true
   rw [U5 (by omega),if_pos rfl]
 · obtain ⟨a,b⟩:=k1 (.inr h2)
   obtain ⟨a',b'⟩:=k2 h2
   have h5:((nodeAt q i).1==5)=false:=by
    rcases zq.1 h2 with e|e<;>rw [e]<;>rfl
   rw [keep _ b (abm (.inr h2) a rfl),keep _ b' (ajS h2 a' rfl),self]
   unfold kH
   dsimp only
   rw [h5,h2]
   show (((mid.set _ ((mid.getD i (false,())).1,())).set _ ((mid.getD i (false,())).1,())).getD _ (false,())).1=_∧(((mid.set _ ((mid.getD i (false,())).1,())).set _ ((mid.getD i (false,())).1,())).getD _ (false,())).1=_
   rw [U5 (by rw [List.length_set];omega),U5 (by omega),U5 (by rw [List.length_set];omega),if_pos rfl,if_pos rfl]
   exact ⟨by split<;>rfl,rfl⟩
theorem ams {q:List bK} (h:bQ q=true):Dl q (q.length-1)=false:=by
 have hn:negated q=iW q q.length (List.replicate q.length (false,())):=by unfold negated;rw [h];rfl
 have hl:=Gu h
 unfold Dl
 rw [hn,Jm q.length]
 · rw [List.getD_eq_getElem?_getD,List.getElem?_replicate];split<;>rfl
 · intro j hj
   obtain ⟨g1,g2⟩:=Oq h hj
   exact ⟨fun z=>by have:=(g1 z).2;omega,fun z=>by have:=(g2 z).2;omega⟩
theorem ajT {q:List bK} (h:bQ q=true) {i:Nat} (hi:i<q.length) (hd:jA (nodeAt q i)=true):(nodeAt q i).2.2.2.1∈fB q (Dl q i):=by
 have hl:(negated q).length=q.length:=by unfold negated;rw [h];show (iW _ _ _).length=_;rw [Gx];simp
 unfold fB
 rw [List.mem_filterMap]
 refine ⟨i,List.mem_range.2 (by omega),?_⟩
 unfold Dl
 rw [hd];simp
theorem aoA {q:List bK} {f:aN} {X Y:BX} (h:bQ q=true) (hp:∀ s∈fB q false,∀ x,X s x=true→Y s x=true) (hn:∀ s∈fB q true,∀ x,X s x=Y s x):
 ∀ a,a<q.length→(Dl q a=false→val q f X a=true→val q f Y a=true)∧(Dl q a=true→val q f X a=val q f Y a):=by
 intro a
 induction a using Nat.strongRecOn with
 |_ a ih=>
  intro ha
  obtain ⟨k1,k2⟩:=Oq h ha
  obtain ⟨n1,n2⟩:=amr h ha
  rw [KO q f X a,KO q f Y a]
  by_cases h5:(nodeAt q a).1=5
  · have hk:=k1 (.inl h5)
    have i1:=(ih _ hk.2 (by omega)).2 (n1 h5)
    rw [if_pos h5,if_pos h5,dif_pos hk.2,dif_pos hk.2,i1]
    exact ⟨fun _=>id,fun _=>rfl⟩
  rw [if_neg h5,if_neg h5]
  by_cases h6:(nodeAt q a).1=6
  · have h2:jI (nodeAt q a)=true:=zq.2 (.inl h6)
    have hk:=k1 (.inr h2)
    have hk':=k2 h2
    have i1:=ih _ hk.2 (by omega)
    have i2:=ih _ hk'.2 (by omega)
    rw [(n2 h2).1] at i1
    rw [(n2 h2).2] at i2
    rw [if_pos h6,if_pos h6,dif_pos ⟨hk.2,hk'.2⟩,dif_pos ⟨hk.2,hk'.2⟩]
    refine ⟨fun hf hv=>?_,fun ht=>by rw [i1.2 ht,i2.2 ht]⟩
    rw [Bool.and_eq_true] at hv ⊢
    exact ⟨i1.1 hf hv.1,i2.1 hf hv.2⟩
  rw [if_neg h6,if_neg h6]
  by_cases h7:(nodeAt q a).1=7
  · have h2:jI (nodeAt q a)=true:=zq.2 (.inr h7)
    have hk:=k1 (.inr h2)
    have hk':=k2 h2
    have i1:=ih _ hk.2 (by omega)
    have i2:=ih _ hk'.2 (by omega)
    rw [(n2 h2).1] at i1
    rw [(n2 h2).2] at i2
    rw [if_pos h7,if_pos h7,dif_pos ⟨hk.2,hk'.2⟩,dif_pos ⟨hk.2,hk'.2⟩]
    refine ⟨fun hf hv=>?_,fun ht=>by rw [i1.2 ht,i2.2 ht]⟩
    rw [Bool.or_eq_true] at hv ⊢
    exact hv.imp (i1.1 hf) (i2.1 hf)
  rw [if_neg h7,if_neg h7]
  by_cases h8:(nodeAt q a).1=8
  · have hm:=ajT h ha (by unfold jA;simp [h8])
    unfold iJ
    simp only [h8]
    refine ⟨fun hf hv=>?_,fun ht=>?_⟩
    · rw [hf] at hm;exact hp _ hm _ hv
    · rw [ht] at hm;exact hn _ hm _
  by_cases h9:(nodeAt q a).1=9
  · have hm:=ajT h ha (by unfold jA;simp [h9])
    unfold iJ
    simp only [h9]
    refine ⟨fun hf hv=>?_,fun ht=>?_⟩
    · rw [hf] at hm
      have hv:(!((f.2.2.2.1==0))&&X (nodeAt q a).2.2.2.1 f.2.2.2.1)=true:=hv
      rw [Bool.and_eq_true] at hv
      show (!((f.2.2.2.1==0))&&Y (nodeAt q a).2.2.2.1 f.2.2.2.1)=true
      rw [Bool.and_eq_true]
      exact ⟨hv.1,hp _ hm _ hv.2⟩
    · rw [ht] at hm
      show (!((f.2.2.2.1==0))&&X (nodeAt q a).2.2.2.1 f.2.2.2.1)=(!((f.2.2.2.1==0))&&Y (nodeAt q a).2.2.2.1 f.2.2.2.1)
      rw [hn _ hm]
  · have:iJ (nodeAt q a) f X=iJ (nodeAt q a) f Y:=by
     unfold iJ
     rw [beq_eq_false_iff_ne.2 h8,beq_eq_false_iff_ne.2 h9];rfl
    rw [this]
    exact ⟨fun _=>id,fun _=>rfl⟩
theorem OX {q:List bK} {f:aN} {X Y:BX} (hp:∀ s∈fB q false,∀ x,X s x=true→Y s x=true) (hn:∀ s∈fB q true,∀ x,X s x=Y s x) (hm:iI q f X=true):iI q f Y=true:=by
 unfold iI at hm ⊢
 rw [Bool.and_eq_true] at hm ⊢
 have hl:=Gu hm.1
 exact ⟨hm.1,(aoA hm.1 hp hn _ (by omega)).1 (ams hm.1) hm.2⟩
theorem agV {fs:List aN} {q:List bK} {X:BX} {x:Int}:(x,())∈sel fs q X↔∃ f∈fs,f.1=x∧iI q f X=true:=by
 unfold sel
 rw [List.mem_map]
 constructor
 · rintro ⟨f,hf,e⟩
   rw [List.mem_filter] at hf
   exact ⟨f,hf.1,congrArg Prod.fst e,hf.2⟩
 · rintro ⟨f,hf,rfl,hm⟩
   exact ⟨f,List.mem_filter.2 ⟨hf,hm⟩,rfl⟩
theorem YZ {fs:List aN} {q:List bK} {X Y:BX} (h:∀ b,∀ s∈fB q b,∀ x,X s x=Y s x):sel fs q X=sel fs q Y:=by
 unfold sel
 congr 1
 apply List.filter_congr
 intro f _
 rw [Bool.eq_iff_iff]
 exact ⟨OX (fun s hs x hx=>by rw [← h false s hs x];exact hx) (fun s hs x=>h true s hs x),OX (fun s hs x hx=>by rw [h false s hs x];exact hx) (fun s hs x=>(h true s hs x).symm)⟩
def Qc (fs:List aN) (d:List aC):Sys Bytes Int where
 T:=fun s X x=>∃ i,i<d.length∧(bG d i).1=s∧(x,())∈sel fs (bG d i).2.1 X
 pos:=fun s t=>∃ i,i<d.length∧(bG d i).1=s∧t∈fB (bG d i).2.1 false
 neg:=fun s t=>∃ i,i<d.length∧(bG d i).1=s∧t∈fB (bG d i).2.1 true
 mono:=fun s X Y hp hn x ⟨i,hi,e,hx⟩=>⟨i,hi,e,by
  obtain ⟨f,hf,e2,hm⟩:=agV.1 hx
  exact agV.2 ⟨f,hf,e2,OX (fun t ht=>hp t ⟨i,hi,e,ht⟩) (fun t ht=>hn t ⟨i,hi,e,ht⟩) hm⟩⟩
end Sp
namespace Go.Fw
open Go
end Go.Fw
namespace Go.Fw
open Go
theorem dH {p:Prop} [Decidable p] {A B:Prop} (h:p) (a:A):cond (decide p) A B:=by rw [decide_eq_true h];exact a
theorem dI {p:Prop} [Decidable p] {A B:Prop} (h:¬ p) (b:B):cond (decide p) A B:=by rw [decide_eq_false h];exact b
theorem iM {B:((Int×Unit)×Unit→Prop)→((Int×Unit)×Unit→Nat)→(Int×Unit)×Unit→Prop} (len:Nat) (hlen:len≤9223372036854775807) (J:Nat→Prop) (h0:J 0)
 (hstep:∀ I μ (n:Nat),n<len→J n→(J (n+1)→I ((IntKind.i64.wrap ((n:Int)+1),()),())∧μ ((IntKind.i64.wrap ((n:Int)+1),()),())<μ (((n:Int),()),()))→B I μ (((n:Int),()),()))
 (hend:∀ I μ,J len→B I μ (((len:Int),()),())):∃ I,∃ μ,I (((0:Int),()),())∧∀ y,I y→B I μ y:=by
 refine ⟨fun y=>∃ n:Nat,y.1.1=n∧n≤len∧J n,fun y=>((len:Int)-y.1.1).toNat,⟨0,rfl,Nat.zero_le _,h0⟩,?_⟩
 rintro ⟨⟨_,⟨⟩⟩,⟨⟩⟩ ⟨n,rfl,hn,hJ⟩
 rcases Nat.lt_or_ge n len with h|h
 · refine hstep _ _ n h hJ fun hJ'=>?_
   have e:IntKind.i64.wrap ((n:Int)+1)=((n+1:Nat):Int):=fF _ (by omega)
   rw [e]
   exact ⟨⟨n+1,rfl,h,hJ'⟩,by show ((len:Int)-(n+1:Nat)).toNat<((len:Int)-n).toNat;omega⟩
 · have:n=len:=by omega
   subst this
   exact hend _ _ hJ
theorem dN {Y S:Type} (mk:Int→S→Y) (idx:Y→Int) (hidx:∀ i s,idx (mk i s)=i) {B:(Y→Prop)→(Y→Nat)→Y→Prop} (len:Nat) (hlen:len≤9223372036854775807) (J:Nat→S→Prop) {s0:S} (h0:J 0 s0)
 (hstep:∀ I μ (n:Nat) (s:S),n<len→J n s→(∀ s',J (n+1) s'→I (mk (IntKind.i64.wrap ((n:Int)+1)) s')∧μ (mk (IntKind.i64.wrap ((n:Int)+1)) s')<μ (mk n s))→B I μ (mk n s))
 (hend:∀ I μ s,J len s→B I μ (mk len s)):∃ I,∃ μ,I (mk 0 s0)∧∀ y,I y→B I μ y:=by
 refine ⟨fun y=>∃ (n:Nat) (s:S),y=mk n s∧n≤len∧J n s,fun y=>((len:Int)-idx y).toNat,⟨0,s0,rfl,Nat.zero_le _,h0⟩,?_⟩
 rintro _ ⟨n,s,rfl,hn,hJ⟩
 rcases Nat.lt_or_ge n len with h|h
 · refine hstep _ _ n s h hJ fun s' hJ'=>?_
   have e:IntKind.i64.wrap ((n:Int)+1)=((n+1:Nat):Int):=fF _ (by omega)
   rw [e]
   refine ⟨⟨n+1,s',rfl,h,hJ'⟩,?_⟩
   show ((len:Int)-idx (mk (n+1:Nat) s')).toNat<((len:Int)-idx (mk n s)).toNat
   rw [hidx,hidx]
   omega
 · have:n=len:=by omega
   subst this
   exact hend _ _ s hJ
theorem DL {len:Nat} {f:Nat→Bool} {n:Nat} (hn:n<len) (h:f n=false):Sp.jh len f=false:=by
 unfold Sp.jh
 rw [List.all_eq_false]
 exact ⟨n,List.mem_range.2 hn,by rw [h];simp⟩
theorem nV {len:Nat} {f:Nat→Bool} (h:∀ i,i<len→f i=true):Sp.jh len f=true:=by
 unfold Sp.jh
 rw [List.all_eq_true]
 exact fun i hi=>h i (List.mem_range.1 hi)
theorem abh {len:Nat} {f:Nat→Bool}:Sp.jh len f=true↔∀ i,i<len→f i=true:=by
 unfold Sp.jh
 rw [List.all_eq_true]
 exact ⟨fun h i hi=>h i (List.mem_range.2 hi),fun h i hi=>h i (List.mem_range.1 hi)⟩
theorem fA {n:Nat} {f:Nat→Bool} (h:∀ i,i<n→f i=true) (hn:f n=true):∀ i,i<n+1→f i=true:=fun i hi=>by
 rcases Nat.lt_or_ge i n with h'|h'
 · exact h i h'
 · have:i=n:=by omega
   rw [this];exact hn
theorem dS {b:Bool} (h:(!b)=true):b=false:=by cases b<;>first|rfl|cases h
theorem bU {b:Bool} (h:(!b)=false):b=true:=by cases b<;>first|rfl|cases h
theorem fJ {p:Prop} [Decidable p] (h:decide p=true):p:=of_decide_eq_true h
theorem fZ {p:Prop} [Decidable p] (h:decide p=false):¬ p:=of_decide_eq_false h
theorem wJ {n:Nat} (h:0<n) (hn:n≤9223372036854775807):IntKind.i64.wrap ((n:Int)-1)=((n-1:Nat):Int):=by rw [fF _ (by omega)];omega
theorem Ou {α:Type} {d:α} {a b:List α} (hl:a.length=b.length) (h:∀ i,i<a.length→a.getD i d=b.getD i d):a=b:=by
 refine List.ext_getElem hl fun i h1 h2=>?_
 have:=h i h1
 rw [List.getD_eq_getElem?_getD,List.getD_eq_getElem?_getD,List.getElem?_eq_getElem h1,List.getElem?_eq_getElem h2] at this
 simpa using this
theorem RP {α β:Type} (e:α→α→Bool) (he:∀ x y,e x y=false↔x=y) (d:α) (a b:List α) (t:β) (hlen:a.length≤9223372036854775807) (hl:a.length=b.length) {K:Bool×Unit→Prop} (hF:a≠b→K (false,())) (hT:a=b→K (true,())):
 ∃ (I:(Int×Unit)×Unit→Prop),∃ (μ:(Int×Unit)×Unit→Nat),I (((0:Int),()),())∧∀ (y:(Int×Unit)×Unit),I y→
   bif decide (y.fst.fst<(a.length:Int)) then
    ((0:Int)≤y.fst.fst∧y.fst.fst<(a.length:Int))∧((0:Int)≤y.fst.fst∧y.fst.fst<(b.length:Int))∧
      (bif e (a.getD (Int.toNat y.fst.fst) d) (b.getD (Int.toNat y.fst.fst) d) then K (false,())
      else t=t∧I ((IntKind.i64.wrap (y.fst.fst+(1:Int)),()),())∧μ ((IntKind.i64.wrap (y.fst.fst+(1:Int)),()),())<μ y)
   else K (true,()):=by
 refine iM a.length hlen (fun n=>∀ i,i<n→a.getD i d=b.getD i d) (fun i hi=>by omega) (fun I μ n hn hJ next=>?_) fun I μ hJ=>(by dsimp only;exact dI (by omega) (hT (Ou hl hJ)))
 dsimp only
 refine dH (by omega) ⟨⟨by omega,by omega⟩,⟨by omega,by omega⟩,af (fun h=>hF fun h'=>?_) fun h=>⟨rfl,next fun i hi=>?_⟩⟩
 · subst h'
   have:=(he (a.getD n d) (a.getD n d)).2 rfl
   have h:e (a.getD n d) (a.getD n d)=true:=h
   rw [this] at h;cases h
 · rcases Nat.lt_or_ge i n with h'|h'
   · exact hJ i h'
   · have:i=n:=by omega
     rw [this];exact (he _ _).1 h
theorem ab7 {α β:Type} (e:α→α→Bool) (he:∀ x y,e x y=false↔x=y) (d:α) (a b:List α) (t:β) (hlen:a.length≤9223372036854775807) (hl:a.length=b.length) {K:Bool×Unit→Prop} (hF:a≠b→K (false,())) (hT:a=b→K (true,())):
 ∃ (I:(Int×Unit)×Unit→Prop),∃ (μ:(Int×Unit)×Unit→Nat),I (((0:Int),()),())∧∀ (y:(Int×Unit)×Unit),I y→
   bif decide (y.fst.fst<(a.length:Int)) then
    ((0:Int)≤y.fst.fst∧y.fst.fst<(a.length:Int))∧((0:Int)≤y.fst.fst∧y.fst.fst<(b.length:Int))∧True∧
      (bif e (a.getD (Int.toNat y.fst.fst) d) (b.getD (Int.toNat y.fst.fst) d) then K (false,())
      else t=t∧I ((IntKind.i64.wrap (y.fst.fst+(1:Int)),()),())∧μ ((IntKind.i64.wrap (y.fst.fst+(1:Int)),()),())<μ y)
   else K (true,()):=by
 refine iM a.length hlen (fun n=>∀ i,i<n→a.getD i d=b.getD i d) (fun i hi=>by omega) (fun I μ n hn hJ next=>?_) fun I μ hJ=>(by dsimp only;exact dI (by omega) (hT (Ou hl hJ)))
 dsimp only
 refine dH (by omega) ⟨⟨by omega,by omega⟩,⟨by omega,by omega⟩,trivial,af (fun h=>hF fun h'=>?_) fun h=>⟨rfl,next fun i hi=>?_⟩⟩
 · subst h'
   have:=(he (a.getD n d) (a.getD n d)).2 rfl
   have h:e (a.getD n d) (a.getD n d)=true:=h
   rw [this] at h;cases h
 · rcases Nat.lt_or_ge i n with h'|h'
   · exact hJ i h'
   · have:i=n:=by omega
     rw [this];exact (he _ _).1 h
end Go.Fw
namespace Sp
open Go Go.Fw
theorem Xy {name:Bytes}:∀ (s:List gW) (n:Nat),n<s.length→(∀ i,i<n→(s.getD i ([],0,())).1≠name)→(s.getD n ([],0,())).1=name→kindOf s name=(s.getD n ([],0,())).2.1
 |[],n,h,_,_=>by simp at h
 |f::r,0,_,_,he=>by
  have he:f.1=name:=he
  show (bif decide (f.1=name) then f.2.1 else kindOf r name)=f.2.1
  rw [decide_eq_true he];rfl
 |f::r,n+1,h,hne,he=>by
  have h0:f.1≠name:=hne 0 (by omega)
  show (bif decide (f.1=name) then f.2.1 else kindOf r name)=_
  rw [decide_eq_false h0]
  exact Xy r n (by simpa using h) (fun i hi=>hne (i+1) (by omega)) he
theorem Qo {name:Bytes}:∀ (s:List gW),(∀ i,i<s.length→(s.getD i ([],0,())).1≠name)→kindOf s name=0
 |[],_=>rfl
 |f::r,hne=>by
  have h0:f.1≠name:=hne 0 (by simp)
  show (bif decide (f.1=name) then f.2.1 else kindOf r name)=_
  rw [decide_eq_false h0]
  exact Qo r fun i hi=>hne (i+1) (by simp;omega)
theorem Y0 {id:Int}:∀ (s:List aN) (k:Int) (n:Nat),n<s.length→(∀ i,i<n→(fileAt s i).1≠id)→(fileAt s n).1=id→BN k s id=k+n
 |[],_,n,h,_,_=>by simp at h
 |f::r,k,0,_,_,he=>by
  have he:f.1=id:=he
  show (bif decide (f.1=id) then k else BN (k+1) r id)=_
  rw [decide_eq_true he];simp
 |f::r,k,n+1,h,hne,he=>by
  have h0:f.1≠id:=hne 0 (by omega)
  show (bif decide (f.1=id) then k else BN (k+1) r id)=_
  rw [decide_eq_false h0]
  show BN (k+1) r id=_
  rw [Y0 r (k+1) n (by simpa using h) (fun i hi=>hne (i+1) (by omega)) he]
  omega
theorem SL {id:Int}:∀ (s:List aN) (k:Int),(∀ i,i<s.length→(fileAt s i).1≠id)→BN k s id=-1
 |[],_,_=>rfl
 |f::r,k,hne=>by
  have h0:f.1≠id:=hne 0 (by simp)
  show (bif decide (f.1=id) then k else BN (k+1) r id)=_
  rw [decide_eq_false h0]
  exact SL r (k+1) fun i hi=>hne (i+1) (by simp;omega)
theorem JS {id:Int} {s:List aN} {n:Nat} (h:n<s.length) (hne:∀ i,i<n→(fileAt s i).1≠id) (he:(fileAt s n).1=id):place s id=n:=by
 unfold place
 rw [Y0 s 0 n h hne he];omega
theorem TY {id:Int} {s:List aN} (hne:∀ i,i<s.length→(fileAt s i).1≠id):place s id=-1:=SL s 0 hne
theorem lZ (s:List aN) (id:Int):(place s id=-1∧∀ i,i<s.length→(fileAt s i).1≠id)∨∃ n,n<s.length∧place s id=n∧(fileAt s n).1=id∧∀ i,i<n→(fileAt s i).1≠id:=by
 by_cases h:∃ n,n<s.length∧(fileAt s n).1=id
 · obtain ⟨n,h1,h2,h3⟩:=(least s.length (p:=fun n=>(fileAt s n).1=id) h)
   exact .inr ⟨n,h1,JS h1 (fun i hi=>h3 i hi) h2,h2,fun i hi=>h3 i hi⟩
 · have hne:∀ i,i<s.length→(fileAt s i).1≠id:=fun i hi e=>h ⟨i,hi,e⟩
   exact .inl ⟨TY hne,hne⟩
theorem aa8 {s:List gW} {n:Nat} (h:n<s.length) (hn:kV s n=false):fQ s=false:=by
 unfold fQ;rw [DL h hn];rfl
theorem amu {fs:List gW} {s:List fD} {n:Nat} (h:n<s.length) (hn:jW fs s n=false):jT fs s=false:=DL h hn
theorem aht {fs:List gW} {f:aN} {n:Nat} (h:n<f.2.2.2.2.1.length) (hn:jW fs f.2.2.2.2.1 n=false):dm fs f=false:=by
 unfold dm;rw [amu h hn];rfl
theorem ad4 {s:bT} {n:Nat} (h:n<s.2.1.length) (hn:kK s n=false):ax s=false:=by
 unfold ax;rw [DL h hn];rfl
theorem lW {s:bT} {i:Nat}:kK s i=true↔dm s.1 (fileAt s.2.1 i)=true∧(fileAt s.2.1 i).1<s.2.2.1∧(0<i→(fileAt s.2.1 (i-1)).1<(fileAt s.2.1 i).1):=by
 unfold kK
 rw [Bool.and_eq_true,Bool.and_eq_true,decide_eq_true_eq,and_assoc]
 refine and_congr_right fun _=>and_congr_right fun _=>?_
 by_cases h:0<i
 · simp [h]
 · simp [h]
theorem kz {s:bT}:ax s=true↔(∀ i,i<s.2.1.length→kK s i=true)∧fQ s.1=true∧s.2.1.length≤12∧1≤s.2.2.1∧s.2.2.1≤61:=by
 unfold ax
 rw [Bool.and_eq_true,Bool.and_eq_true,Bool.and_eq_true,Bool.and_eq_true,decide_eq_true_eq,decide_eq_true_eq,decide_eq_true_eq,abh]
 constructor
 · rintro ⟨⟨⟨h1,h2⟩,h3⟩,h4,h5⟩;exact ⟨h1,h2,by omega,h4,h5⟩
 · rintro ⟨h1,h2,h3,h4,h5⟩;exact ⟨⟨⟨h1,h2⟩,by omega⟩,h4,h5⟩
theorem anI {fs:List gW} {f:aN} (h:dm fs f=true):1≤f.1∧f.1≤60:=by
 unfold dm at h
 simp only [Bool.and_eq_true,decide_eq_true_eq] at h
 exact h.1.1.2
theorem QS {fs:List aN} {g:aN} {i:Nat} (h:i<fs.length):fileAt (fs++[g]) i=fileAt fs i:=by
 unfold fileAt
 rw [List.getD_eq_getElem?_getD,List.getElem?_append_left h,← List.getD_eq_getElem?_getD]
theorem akD {fs:List aN} {g:aN}:fileAt (fs++[g]) fs.length=g:=by
 unfold fileAt
 rw [List.getD_eq_getElem?_getD,List.getElem?_append_right (Nat.le_refl _)];simp
theorem ajU {s:bT} {g:aN} (h:ax s=true) (hl:s.2.1.length<12) (hg:dm s.1 g=true) (hid:g.1=s.2.2.1):ax (s.1,s.2.1++[g],s.2.2.1+1,())=true:=by
 obtain ⟨h1,h2,h3,h4,h5⟩:=kz.1 h
 have hg1:=anI hg
 refine kz.2 ⟨fun i hi=>?_,h2,by show (s.2.1++[g]).length≤12;simp;omega,by show 1≤s.2.2.1+1;omega,by show s.2.2.1+1≤61;omega⟩
 have hi:i<(s.2.1++[g]).length:=hi
 rw [List.length_append,List.length_cons,List.length_nil] at hi
 refine lW.2 ?_
 show dm s.1 (fileAt (s.2.1++[g]) i)=true∧(fileAt (s.2.1++[g]) i).1<s.2.2.1+1∧(0<i→(fileAt (s.2.1++[g]) (i-1)).1<(fileAt (s.2.1++[g]) i).1)
 rcases Nat.lt_or_ge i s.2.1.length with hlt|hge
 · obtain ⟨k1,k2,k3⟩:=lW.1 (h1 i hlt)
   rw [QS hlt]
   refine ⟨k1,by omega,fun h0=>?_⟩
   rw [QS (by omega)]
   exact k3 h0
 · have e:i=s.2.1.length:=by omega
   subst e
   rw [akD]
   refine ⟨hg,by omega,fun h0=>?_⟩
   rw [QS (by omega)]
   have:=(lW.1 (h1 (s.2.1.length-1) (by omega))).2.1
   omega
theorem jD (s:bT) (f:aN):(aH s f=(s,0,false)∧¬ (ax s=true∧s.2.1.length<12∧dm s.1 (s.2.2.1,f.2)=true))∨
 (ax s=true∧s.2.1.length<12∧dm s.1 (s.2.2.1,f.2)=true∧aH s f=((s.1,s.2.1++[(s.2.2.1,f.2)],s.2.2.1+1,()),s.2.2.1,true)):=by
 by_cases h:ax s=true∧s.2.1.length<12∧dm s.1 (s.2.2.1,f.2)=true
 · right
   refine ⟨h.1,h.2.1,h.2.2,?_⟩
   unfold aH
   dsimp only
   rw [h.1,h.2.2,decide_eq_true (by omega)];rfl
 · left
   refine ⟨?_,h⟩
   have:(ax s&&decide ((s.2.1.length:Int)<12)&&dm s.1 (s.2.2.1,f.2))=false:=by
    cases hb:(ax s&&decide ((s.2.1.length:Int)<12)&&dm s.1 (s.2.2.1,f.2)) with
    |false=>rfl
    |true=>
     simp only [Bool.and_eq_true,decide_eq_true_eq] at hb
     exact (h ⟨hb.1.1,by omega,hb.2⟩).elim
   unfold aH
   dsimp only
   rw [this];rfl
theorem Bh {s:bT} (f:aN) (h:ax s=true):ax (aH s f).1=true:=by
 rcases jD s f with ⟨e,_⟩|⟨h1,h2,h3,e⟩
 · rw [e];exact h
 · rw [e];exact ajU h1 h2 h3 rfl
theorem Ll {s:bT} {f:aN} (h:bn s) (hf:cu f):bn (aH s f).1:=by
 rcases jD s f with ⟨e,_⟩|⟨h1,h2,h3,e⟩
 · rw [e];exact h
 · rw [e]
   refine ⟨h.1,by show (s.2.1++[(s.2.2.1,f.2)]).length≤1000;simp;omega,fun g hg=>?_⟩
   have hg:g∈s.2.1++[(s.2.2.1,f.2)]:=hg
   rcases List.mem_append.1 hg with hg|hg
   · exact h.2.2 g hg
   · have:g=(s.2.2.1,f.2):=by simpa using hg
     subst this;exact hf
theorem lU (s:bT) (id:Int):(aX s id=(s,false)∧¬ (ax s=true∧0≤place s.2.1 id))∨
 ∃ n,n<s.2.1.length∧place s.2.1 id=n∧ax s=true∧aX s id=((s.1,s.2.1.eraseIdx n,s.2.2.1,()),true):=by
 rcases lZ s.2.1 id with ⟨h,_⟩|⟨n,hn,h,_,_⟩
 · left
   refine ⟨?_,fun h'=>by omega⟩
   unfold aX
   rw [h];simp
 · cases ho:ax s with
   |false=>
    left
    refine ⟨?_,fun h'=>by cases h'.1⟩
    unfold aX
    rw [ho];rfl
   |true=>
    right
    refine ⟨n,hn,h,rfl,?_⟩
    unfold aX
    rw [ho,h,decide_eq_false (by omega),Int.toNat_natCast];rfl
theorem Jo {fs:List aN} {n i:Nat}:fileAt (fs.eraseIdx n) i=if i<n then fileAt fs i else fileAt fs (i+1):=by
 unfold fileAt
 rw [List.getD_eq_getElem?_getD,List.getElem?_eraseIdx]
 split<;>rw [List.getD_eq_getElem?_getD]
theorem aie {s:bT} {n:Nat} (h:ax s=true) (hn:n<s.2.1.length):ax (s.1,s.2.1.eraseIdx n,s.2.2.1,())=true:=by
 obtain ⟨h1,h2,h3,h4,h5⟩:=kz.1 h
 have hlen:(s.2.1.eraseIdx n).length=s.2.1.length-1:=List.length_eraseIdx_of_lt hn
 refine kz.2 ⟨fun i hi=>?_,h2,by show (s.2.1.eraseIdx n).length≤12;omega,h4,h5⟩
 have hi:i<(s.2.1.eraseIdx n).length:=hi
 refine lW.2 ?_
 show dm s.1 (fileAt (s.2.1.eraseIdx n) i)=true∧(fileAt (s.2.1.eraseIdx n) i).1<s.2.2.1∧(0<i→(fileAt (s.2.1.eraseIdx n) (i-1)).1<(fileAt (s.2.1.eraseIdx n) i).1)
 rw [Jo,Jo]
 rcases Nat.lt_or_ge i n with hlt|hge
 · rw [if_pos hlt]
   obtain ⟨k1,k2,k3⟩:=lW.1 (h1 i (by omega))
   refine ⟨k1,k2,fun h0=>?_⟩
   rw [if_pos (by omega)]
   exact k3 h0
 · rw [if_neg (by omega)]
   obtain ⟨k1,k2,k3⟩:=lW.1 (h1 (i+1) (by omega))
   refine ⟨k1,k2,fun h0=>?_⟩
   have k3:=k3 (by omega)
   rw [Nat.add_sub_cancel] at k3
   split
   · have:=(lW.1 (h1 i (by omega))).2.2 h0
     omega
   · rw [show i-1+1=i by omega]
     exact k3
theorem Bj {s:bT} (id:Int) (h:ax s=true):ax (aX s id).1=true:=by
 rcases lU s id with ⟨e,_⟩|⟨n,hn,_,ho,e⟩
 · rw [e];exact h
 · rw [e];exact aie ho hn
theorem Lm {s:bT} (id:Int) (h:bn s):bn (aX s id).1:=by
 rcases lU s id with ⟨e,_⟩|⟨n,hn,_,ho,e⟩
 · rw [e];exact h
 · rw [e]
   refine ⟨h.1,?_,fun g hg=>h.2.2 g (List.mem_of_mem_eraseIdx hg)⟩
   show (s.2.1.eraseIdx n).length≤1000
   have:=h.2.1
   rw [List.length_eraseIdx_of_lt hn];omega
theorem jl (s:bT) (f:aN):(aV s f=(s,false)∧¬ (ax s=true∧0≤place s.2.1 f.1∧dm s.1 f=true))∨
 ∃ n,n<s.2.1.length∧place s.2.1 f.1=n∧ax s=true∧dm s.1 f=true∧aV s f=((s.1,s.2.1.set n f,s.2.2.1,()),true):=by
 rcases lZ s.2.1 f.1 with ⟨h,_⟩|⟨n,hn,h,_,_⟩
 · left
   refine ⟨?_,fun h'=>by omega⟩
   unfold aV
   rw [h];simp
 · cases ho:ax s with
   |false=>
    left
    refine ⟨?_,fun h'=>by cases h'.1⟩
    unfold aV
    rw [ho];rfl
   |true=>
    cases hf:dm s.1 f with
    |false=>
     left
     refine ⟨?_,fun h'=>by cases h'.2.2⟩
     unfold aV
     rw [hf,Bool.and_false];rfl
    |true=>
     right
     refine ⟨n,hn,h,rfl,rfl,?_⟩
     unfold aV
     rw [ho,hf,h,decide_eq_false (by omega),Int.toNat_natCast];rfl
theorem Sv {s:bT} {f:aN} (h:bn s) (hf:cu f):bn (aV s f).1:=by
 rcases jl s f with ⟨e,_⟩|⟨n,hn,_,ho,_,e⟩
 · rw [e];exact h
 · rw [e]
   refine ⟨h.1,by show (s.2.1.set n f).length≤1000;rw [List.length_set];exact h.2.1,fun g hg=>?_⟩
   rcases List.mem_or_eq_of_mem_set hg with hg|rfl
   · exact h.2.2 g hg
   · exact hf
theorem Jp {s:List aN} {f:aN} (h:f∈s):∃ i,i<s.length∧fileAt s i=f:=by
 obtain ⟨i,hi,rfl⟩:=List.getElem_of_mem h
 refine ⟨i,hi,?_⟩
 unfold fileAt
 rw [List.getD_eq_getElem?_getD,List.getElem?_eq_getElem hi];rfl
theorem FK {s:List aN} {i:Nat} (h:i<s.length):fileAt s i∈s:=getD_mem h
theorem anJ (s:List aN) (id:Int):place s id<0↔∀ f∈s,f.1≠id:=by
 rcases lZ s id with ⟨h,h2⟩|⟨n,hn,h,h2,_⟩
 · refine ⟨fun _ f hf=>?_,fun _=>by omega⟩
   obtain ⟨i,hi,rfl⟩:=Jp hf
   exact h2 i hi
 · refine ⟨fun h'=>by omega,fun h'=>(h' _ (FK hn) h2).elim⟩
theorem Y3 (s:bT) (id:Int):(aO s id).2=!decide (place s.2.1 id<0):=by
 unfold aO
 cases decide (place s.2.1 id<0)<;>rfl
theorem agW (s:bT) (id:Int):(aO s id).2=true↔∃ f∈s.2.1,f.1=id:=by
 rw [Y3,Bool.not_eq_true',decide_eq_false_iff_not,anJ]
 constructor
 · intro h
   refine Classical.byContradiction fun hno=>h fun f hf e=>hno ⟨f,hf,e⟩
 · rintro ⟨f,hf,e⟩ h
   exact h f hf e
theorem ajV {s:bT} (h:ax s=true):∀ (j i:Nat),i<j→j<s.2.1.length→(fileAt s.2.1 i).1<(fileAt s.2.1 j).1
 |0,i,hi,_=>by omega
 |j+1,i,hi,hj=>by
  have h1:=(lW.1 ((kz.1 h).1 (j+1) hj)).2.2 (by omega)
  rw [Nat.add_sub_cancel] at h1
  rcases Nat.lt_or_ge i j with h2|h2
  · have:=ajV h j i h2 (by omega)
    omega
  · have:i=j:=by omega
    rw [this];exact h1
theorem agA {s:bT} (h:ax s=true) {f g:aN} (hf:f∈s.2.1) (hg:g∈s.2.1) (e:f.1=g.1):f=g:=by
 obtain ⟨i,hi,rfl⟩:=Jp hf
 obtain ⟨j,hj,rfl⟩:=Jp hg
 rcases Nat.lt_trichotomy i j with h1|h1|h1
 · have:=ajV h j i h1 hj;omega
 · rw [h1]
 · have:=ajV h i j h1 hi;omega
theorem Oi {α:Type} {p:α→Bool} {d:α}:∀ (l:List α) (n:Nat),n≤l.length→(∀ i,i<n→p (l.getD i d)=true)→(n<l.length→p (l.getD n d)=false)→l.takeWhile p=l.take n∧l.dropWhile p=l.drop n
 |[],n,h,_,_=>by simp
 |x::r,0,_,_,h=>by
  have h:p x=false:=h (by simp)
  constructor<;>simp [h]
 |x::r,n+1,hn,h1,h2=>by
  have h0:p x=true:=h1 0 (by omega)
  have:=Oi r n (by simpa using hn) (fun i hi=>h1 (i+1) (by omega)) fun hlt=>h2 (by simpa using hlt)
  constructor<;>simp [h0,this.1,this.2]
theorem U6 {fs:List aN} {n i:Nat} {f:aN} (hn:n<fs.length):fileAt (fs.set n f) i=if n=i then f else fileAt fs i:=by
 unfold fileAt
 rw [List.getD_eq_getElem?_getD,List.getElem?_set,List.getD_eq_getElem?_getD]
 split
 · rfl
 · rfl
theorem akE {s:bT} {n:Nat} {f:aN} (h:ax s=true) (hn:n<s.2.1.length) (hf:dm s.1 f=true) (he:(fileAt s.2.1 n).1=f.1):ax (s.1,s.2.1.set n f,s.2.2.1,())=true:=by
 obtain ⟨h1,h2,h3,h4,h5⟩:=kz.1 h
 have hid:∀ i,(fileAt (s.2.1.set n f) i).1=(fileAt s.2.1 i).1:=fun i=>by
  rw [U6 hn]
  split
  · rename_i e;rw [← e,he]
  · rfl
 refine kz.2 ⟨fun i hi=>?_,h2,by show (s.2.1.set n f).length≤12;rw [List.length_set];exact h3,h4,h5⟩
 have hi:i<(s.2.1.set n f).length:=hi
 rw [List.length_set] at hi
 obtain ⟨k1,k2,k3⟩:=lW.1 (h1 i hi)
 refine lW.2 ?_
 show dm s.1 (fileAt (s.2.1.set n f) i)=true∧(fileAt (s.2.1.set n f) i).1<s.2.2.1∧(0<i→(fileAt (s.2.1.set n f) (i-1)).1<(fileAt (s.2.1.set n f) i).1)
 rw [hid,hid]
 refine ⟨?_,k2,k3⟩
 rw [U6 hn]
 split
 · exact hf
 · exact k1
theorem Et {s:bT} (f:aN) (h:ax s=true):ax (aV s f).1=true:=by
 rcases jl s f with ⟨e,_⟩|⟨n,hn,hp,ho,hf,e⟩
 · rw [e];exact h
 · rw [e]
   refine akE ho hn hf ?_
   rcases lZ s.2.1 f.1 with ⟨h',_⟩|⟨m,hm,h',h2,_⟩
   · omega
   · rw [← h2,show n=m by omega]
theorem akF {s:bT} {id:Int} (h:(aO s id).2=true):(aO s id).1∈s.2.1∧(aO s id).1.1=id:=by
 rw [Y3,Bool.not_eq_true',decide_eq_false_iff_not] at h
 rcases lZ s.2.1 id with ⟨h',_⟩|⟨n,hn,h',h2,_⟩
 · omega
 · have e:(aO s id).1=fileAt s.2.1 n:=by
    unfold aO
    rw [decide_eq_false h,h',Int.toNat_natCast];rfl
   rw [e]
   exact ⟨FK hn,h2⟩
theorem Jq {s:bT} {f:aN} (h:ax s=true) (hf:f∈s.2.1):aO s f.1=(f,true):=by
 have h2:(aO s f.1).2=true:=(agW s f.1).2 ⟨f,hf,rfl⟩
 obtain ⟨h3,h4⟩:=akF h2
 exact Prod.ext (agA h h3 hf h4) h2
end Sp
namespace Sp
open Go Go.Fw
theorem abn {α:Type} {p:α→Bool} {d:α}:∀ (s:List α) (k:Int) (n:Nat),n<s.length→(∀ i,i<n→p (s.getD i d)=false)→p (s.getD n d)=true→ES p k s=k+n
 |[],_,n,h,_,_=>by simp at h
 |f::r,k,0,_,_,he=>by
  have he:p f=true:=he
  show (bif p f then k else ES p (k+1) r)=_
  rw [he];simp
 |f::r,k,n+1,h,hne,he=>by
  have h0:p f=false:=hne 0 (by omega)
  show (bif p f then k else ES p (k+1) r)=_
  rw [h0]
  show ES p (k+1) r=_
  rw [abn r (k+1) n (by simpa using h) (fun i hi=>hne (i+1) (by omega)) he]
  omega
theorem Vr {α:Type} {p:α→Bool} {d:α}:∀ (s:List α) (k:Int),(∀ i,i<s.length→p (s.getD i d)=false)→ES p k s=-1
 |[],_,_=>rfl
 |f::r,k,hne=>by
  have h0:p f=false:=hne 0 (by simp)
  show (bif p f then k else ES p (k+1) r)=_
  rw [h0]
  exact Vr r (k+1) fun i hi=>hne (i+1) (by simp;omega)
theorem ahD {α:Type} {p:α→Bool} {d:α} {s:List α} {n:Nat} (h:n<s.length) (hne:∀ i,i<n→p (s.getD i d)=false) (he:p (s.getD n d)=true):findAt p s=n:=by
 unfold findAt;rw [abn s 0 n h hne he];omega
theorem abo {α:Type} {p:α→Bool} {d:α} {s:List α} (hne:∀ i,i<s.length→p (s.getD i d)=false):findAt p s=-1:=Vr s 0 hne
theorem OQ {α:Type} (p:α→Bool) (d:α) (s:List α):(findAt p s=-1∧∀ i,i<s.length→p (s.getD i d)=false)∨∃ n,n<s.length∧findAt p s=n∧p (s.getD n d)=true∧∀ i,i<n→p (s.getD i d)=false:=by
 by_cases h:∃ n,n<s.length∧p (s.getD n d)=true
 · obtain ⟨n,h1,h2,h3⟩:=least s.length (p:=fun n=>p (s.getD n d)=true) h
   have h3:∀ i,i<n→p (s.getD i d)=false:=fun i hi=>by simpa using h3 i hi
   exact .inr ⟨n,h1,ahD h1 h3 h2,h2,h3⟩
 · have hne:∀ i,i<s.length→p (s.getD i d)=false:=fun i hi=>by
    cases hp:p (s.getD i d) with
    |false=>rfl
    |true=>exact (h ⟨i,hi,hp⟩).elim
   exact .inl ⟨abo hne,hne⟩
theorem Gz:∀ a:Bytes,Op.bytesLess a a=false
 |[]=>rfl
 |x::a=>by
  show (decide (x<x)||(x==x&&Op.bytesLess a a))=false
  rw [Gz a,decide_eq_false (UInt8.lt_irrefl x),Bool.and_false];rfl
theorem Nc:∀ a b:Bytes,Op.bytesLess a b=false→a≠b→Op.bytesLess b a=true
 |[],[],_,h=>(h rfl).elim
 |x::a,[],_,_=>rfl
 |[],y::b,h,_=>by cases h
 |x::a,y::b,h,hne=>by
  have h:(decide (x<y)||(x==y&&Op.bytesLess a b))=false:=h
  show (decide (y<x)||(y==x&&Op.bytesLess b a))=true
  rw [Bool.or_eq_false_iff,decide_eq_false_iff_not] at h
  by_cases e:x=y
  · subst e
    have h2:Op.bytesLess a b=false:=by simpa using h.2
    rw [Nc a b h2 (fun e=>hne (by rw [e]))]
    simp
  · have:y<x:=by
     have h1:¬ x.toNat<y.toNat:=fun hh=>h.1 (UInt8.lt_iff_toNat_lt.2 hh)
     have h2:x.toNat≠y.toNat:=fun hh=>e (UInt8.toNat_inj.1 hh)
     exact UInt8.lt_iff_toNat_lt.2 (by omega)
    rw [decide_eq_true this];rfl
theorem anK {x y:UInt8} {a b:Bytes}:Op.bytesLess (x::a) (y::b)=true↔x.toNat<y.toNat∨(x=y∧Op.bytesLess a b=true):=by
 show (decide (x<y)||(x==y&&Op.bytesLess a b))=true↔_
 rw [Bool.or_eq_true,decide_eq_true_eq,Bool.and_eq_true,beq_iff_eq,UInt8.lt_iff_toNat_lt]
theorem FI:∀ a b c:Bytes,Op.bytesLess a b=true→Op.bytesLess b c=true→Op.bytesLess a c=true
 |_,[],_,h,_=>by cases h':(‹Bytes›:Bytes)<;>simp_all [Op.bytesLess]
 |_,_::_,[],_,h=>by cases h
 |[],_::_,_::_,_,_=>rfl
 |x::a,y::b,z::c,h1,h2=>by
  rw [anK] at h1 h2 ⊢
  rcases h1 with h1|⟨rfl,h1⟩
  · rcases h2 with h2|⟨rfl,h2⟩
    · exact .inl (by omega)
    · exact .inl h1
  · rcases h2 with h2|⟨rfl,h2⟩
    · exact .inl h2
    · exact .inr ⟨rfl,FI a b c h1 h2⟩
theorem Iq {a b:Bytes} (h:Op.bytesLess a b=true):a≠b:=fun e=>by rw [e,Gz] at h;cases h
theorem afu {a b:Bytes} (h:Op.bytesLess a b=true):Op.bytesLess b a=false:=by
 cases hb:Op.bytesLess b a with
 |false=>rfl
 |true=>have:=FI a b a h hb;rw [Gz] at this;cases this
theorem aov (a b:Bytes):(!(Op.bytesLess a b||a==b))=Op.bytesLess b a:=by
 cases h:Op.bytesLess a b with
 |true=>rw [afu h];rfl
 |false=>
  by_cases e:a=b
  · subst e;rw [Gz];simp
  · rw [Nc a b h e]
    simp [e]
end Sp
namespace Sp
open Go
def nameOf (d:List aC) (i:Nat):Bytes:=(bG d i).1
def dQ (d:List aC) (i:Nat):List bK:=(bG d i).2.1
def sJ (r:List dL) (i:Nat):dL:=r.getD i ([],[],())
def iH (r:List dL) (i:Nat):List (Int×Unit):=(sJ r i).2.1
def ku (d:List aC) (aI:List (Int×Unit)):Prop:=
 aI.length=d.length∧(∀ i,i<d.length→0≤lv aI i∧lv aI i≤d.length)∧(iV (dX d) fun i=>(lv aI i).toNat)∧∀ M,iV (dX d) M→∀ i,i<d.length→lv aI i≤M i
theorem XZ {d:List aC} {a b:List (Int×Unit)} (h1:ku d a) (h2:ku d b):a=b:=by
 refine ano (h1.1.trans h2.1.symm) fun i hi=>?_
 have hi:i<d.length:=by rw [← h1.1];exact hi
 have a1:=h1.2.2.2 _ h2.2.2.1 i hi
 have a2:=h2.2.2.2 _ h1.2.2.1 i hi
 have:=(h1.2.1 i hi).1
 have:=(h2.2.1 i hi).1
 omega
theorem amd {d:List aC} (h:∃ M,iV (dX d) M∧∀ i,i<d.length→M i<d.length):∃ s,ku d s:=by
 have hE:=lq d
 have hmin:∀ i,∃ m,(∃ M,iV (dX d) M∧M i=m)∧∀ M,iV (dX d) M→m≤M i:=fun i=>by
  obtain ⟨M0,h0,_⟩:=h
  have:∀ n,(∃ M,iV (dX d) M∧M i=n)→∃ m,(∃ M,iV (dX d) M∧M i=m)∧∀ M,iV (dX d) M→m≤M i:=by
   intro n
   induction n using Nat.strongRecOn with
   |_ n ih=>
    intro hn
    by_cases hl:∃ M,iV (dX d) M∧M i<n
    · obtain ⟨M,h1,h2⟩:=hl
      exact ih _ h2 ⟨M,h1,rfl⟩
    · exact ⟨n,hn,fun M hM=>Nat.le_of_not_lt fun hlt=>hl ⟨M,hM,hlt⟩⟩
  exact this (M0 i) ⟨M0,h0,rfl⟩
 obtain ⟨L,hL⟩:=Classical.axiomOfChoice hmin
 have hfix:iV (dX d) L:=fun e he=>by
  obtain ⟨⟨M,h1,h2⟩,_⟩:=hL e.1
  have a:=(hL e.2.1).2 M h1
  have b:=h1 e he
  rw [← h2];omega
 have hlv:∀ i,i<d.length→lv ((List.range d.length).map fun i=>((L i:Int),())) i=L i:=fun i hi=>by
  unfold lv
  rw [List.getD_eq_getElem?_getD,List.getElem?_map,List.getElem?_range hi];rfl
 refine ⟨(List.range d.length).map fun i=>((L i:Int),()),by simp,fun i hi=>?_,fun e he=>?_,fun M hM i hi=>?_⟩
 · rw [hlv i hi]
   obtain ⟨M,h1,h2⟩:=h
   have:=(hL i).2 M h1
   have:=h2 i hi
   omega
 · obtain ⟨h1,h2,_⟩:=hE e he
   have:=hfix e he
   dsimp only
   rw [hlv _ h1,hlv _ h2]
   omega
 · rw [hlv i hi]
   have:=(hL i).2 M hM
   omega
def LH (d:List aC) (aI:List (Int×Unit)) (s:Bytes):Nat:=(lv aI (aJ d s).toNat).toNat
def due (d:List aC) (nm:Bytes→Bool) (s:Bytes):Prop:=nm s=true∧∃ i,i<d.length∧nameOf d i=s
theorem anL {d:List aC} (h:bF d=true) {i:Nat} (hi:i<d.length):bQ (dQ d i)=true∧(0<i→Op.bytesLess (nameOf d (i-1)) (nameOf d i)=true):=by
 unfold bF at h
 rw [Bool.and_eq_true] at h
 have h1:jZ d i=true:=by
  have:=h.1
  unfold jh at this
  exact List.all_eq_true.1 this i (List.mem_range.2 hi)
 unfold jZ at h1
 rw [Bool.and_eq_true,Bool.and_eq_true] at h1
 refine ⟨h1.1.2,fun h0=>?_⟩
 have:=h1.2
 rw [decide_eq_true h0] at this
 simpa [nameOf] using this
theorem SN {d:List aC} (h:bF d=true):∀ (j i:Nat),i<j→j<d.length→Op.bytesLess (nameOf d i) (nameOf d j)=true
 |0,i,hi,_=>by omega
 |j+1,i,hi,hj=>by
  have h1:=(anL h hj).2 (by omega)
  rcases Nat.lt_or_ge i j with h2|h2
  · exact FI _ _ _ (SN h j i h2 (by omega)) h1
  · have:i=j:=by omega
    subst this;exact h1
theorem HY {d:List aC} (h:bF d=true) {i j:Nat} (hi:i<d.length) (hj:j<d.length) (e:nameOf d i=nameOf d j):i=j:=by
 rcases Nat.lt_trichotomy i j with h1|h1|h1
 · exact (Iq (SN h j i h1 hj) e).elim
 · exact h1
 · exact (Iq (SN h i j h1 hi) e.symm).elim
theorem Nu {d:List aC} (h:bF d=true) {i:Nat} (hi:i<d.length):aJ d (nameOf d i)=i:=by
 rcases pK d (nameOf d i) with ⟨_,h2⟩|⟨n,h1,h2,h3,_⟩
 · refine (h2 (bG d i) ?_ rfl).elim
   unfold bG
   rw [List.getD_eq_getElem?_getD,List.getElem?_eq_getElem hi]
   exact List.getElem_mem hi
 · rw [h2,HY h h1 hi h3]
theorem zH {d:List aC} (h:bF d=true) {aI:List (Int×Unit)} {i:Nat} (hi:i<d.length):LH d aI (nameOf d i)=(lv aI i).toNat:=by
 unfold LH;rw [Nu h hi];rfl
theorem H6 {fs:List aN} {d:List aC} (h:bF d=true) {aI:List (Int×Unit)} (hl:ku d aI) (nm:Bytes→Bool):aiq (Qc fs d) (due d nm) (LH d aI):=by
 intro s t _ ht
 obtain ⟨_,j,hj,rfl⟩:=ht
 have edge:∀ i,i<d.length→∀ m b,(m=0∧b=false∨m=1∧b=true)→nameOf d j∈fB (dQ d i) b→(lv aI j).toNat+m≤(lv aI i).toNat:=fun i hi m b hm hd=>by
  refine hl.2.2.1 (i,j,m) (zo.2 ⟨hi,nameOf d j,?_,by rw [Nu h hj];omega,by rw [Nu h hj];rfl⟩)
  rcases hm with ⟨a,b⟩|⟨a,b⟩
  · subst a b;exact .inl ⟨rfl,hd⟩
  · subst a b;exact .inr ⟨rfl,hd⟩
 refine ⟨?_,?_⟩
 · rintro ⟨i,hi,rfl,hd⟩
   rw [show (bG d i).1=nameOf d i from rfl,zH h hi,zH h hj]
   exact edge i hi 0 false (.inl ⟨rfl,rfl⟩) hd
 · rintro ⟨i,hi,rfl,hd⟩
   rw [show (bG d i).1=nameOf d i from rfl,zH h hi,zH h hj]
   exact edge i hi 1 true (.inr ⟨rfl,rfl⟩) hd
def tY (d:List aC) (out:List dL):Prop:=out.length=d.length∧∀ i,i<d.length→(sJ out i).1=nameOf d i
theorem Kt:∀ {r:List dL} {s:Bytes},(∀ i,i<r.length→(sJ r i).1≠s)→fK r s=[]
 |[],_,_=>rfl
 |x::r,s,h=>by
  have h0:x.1≠s:=h 0 (by simp)
  rw [fK,beq_eq_false_iff_ne.2 h0]
  exact Kt fun i hi=>h (i+1) (by simpa using hi)
theorem XQ:∀ {r:List dL} {i:Nat},i<r.length→(∀ j,j<i→(sJ r j).1≠(sJ r i).1)→fK r (sJ r i).1=iH r i
 |[],i,h,_=>by simp at h
 |x::r,0,_,_=>by
  show fK (x::r) x.1=x.2.1
  rw [fK,beq_iff_eq.2 rfl];rfl
 |x::r,i+1,h,hn=>by
  have h0:x.1≠(sJ r i).1:=hn 0 (by omega)
  show fK (x::r) (sJ r i).1=iH r i
  rw [fK,beq_eq_false_iff_ne.2 h0]
  exact XQ (by simpa using h) fun j hj=>hn (j+1) (by omega)
theorem uX {d:List aC} (h:bF d=true) {out:List dL} (ho:tY d out) {i:Nat} (hi:i<d.length):fK out (nameOf d i)=iH out i:=by
 rw [← ho.2 i hi]
 refine XQ (by rw [ho.1];exact hi) fun j hj e=>?_
 rw [ho.2 j (by omega),ho.2 i hi] at e
 have:=HY h (by omega) hi e
 omega
theorem KX {d:List aC} {out:List dL} (ho:tY d out) {s:Bytes} (hs:∀ i,i<d.length→nameOf d i≠s):fK out s=[]:=
 Kt fun i hi=>by rw [ho.1] at hi;rw [ho.2 i hi];exact hs i hi
structure fM (fs:List aN) (d:List aC) (r:List dL) (nm:Bytes→Bool) (out:List dL):Prop where
 order:tY d out
 kept:∀ i,i<d.length→nm (nameOf d i)=false→iH out i=fK r (nameOf d i)
 fix:∀ i,i<d.length→nm (nameOf d i)=true→iH out i=sel fs (dQ d i) (bD out)
 aI:∃ aI,ku d aI∧Eval (Qc fs d) (due d nm) (LH d aI) (bD out)
theorem Zt {a b:List (Int×Unit)} (h:a=b) (x:Int):fG a x=fG b x:=by rw [h]
theorem alj {d:List aC} {a b:List dL} (ha:tY d a) (hb:tY d b) (h:∀ i,i<d.length→iH a i=iH b i):a=b:=by
 refine List.ext_getElem (ha.1.trans hb.1.symm) fun i h1 h2=>?_
 have hi:i<d.length:=by rw [← ha.1];exact h1
 have e1:=ha.2 i hi
 have e2:=hb.2 i hi
 have e3:=h i hi
 unfold iH at e3
 unfold sJ at e1 e2 e3
 rw [List.getD_eq_getElem?_getD,List.getElem?_eq_getElem h1] at e1 e3
 rw [List.getD_eq_getElem?_getD,List.getElem?_eq_getElem h2] at e2 e3
 simp only [Option.getD_some] at e1 e2 e3
 exact Prod.ext (e1.trans e2.symm) (Prod.ext e3 rfl)
theorem Oz {fs:List aN} {d:List aC} {r:List dL} {nm:Bytes→Bool} {a b:List dL} (h:bF d=true) (ha:fM fs d r nm a) (hb:fM fs d r nm b):a=b:=by
 obtain ⟨l1,hl1,e1⟩:=ha.aI
 obtain ⟨l2,hl2,e2⟩:=hb.aI
 have off:∀ s,¬ due d nm s→∀ x,bD a s x=bD b s x:=fun s hs x=>by
  by_cases hd:∃ i,i<d.length∧nameOf d i=s
  · obtain ⟨i,hi,rfl⟩:=hd
    have hn:nm (nameOf d i)=false:=by
     rw [Bool.eq_false_iff];exact fun hn=>hs ⟨hn,i,hi,rfl⟩
    exact Zt (by rw [uX h ha.order hi,uX h hb.order hi,ha.kept i hi hn,hb.kept i hi hn]) x
  · have hd':∀ i,i<d.length→nameOf d i≠s:=fun i hi e=>hd ⟨i,hi,e⟩
    exact Zt (by rw [KX ha.order hd',KX hb.order hd']) x
 have key:=QO (U:=due d nm) e1 e2 (H6 h hl1 nm) (H6 h hl2 nm) (fun _ h=>h) (fun _ h=>h) (fun _ _ _ _=>Iff.rfl) (fun _ _ _ h=>h) (fun _ _ _ h=>h)
  fun i _ j _=>Classical.or_iff_not_imp_left.2 (off j)
 have all:bD a=bD b:=by
  funext s x
  by_cases hs:due d nm s
  · exact key s hs x
  · exact off s hs x
 refine alj ha.order hb.order fun i hi=>?_
 cases hn:nm (nameOf d i) with
 |false=>rw [ha.kept i hi hn,hb.kept i hi hn]
 |true=>rw [ha.fix i hi hn,hb.fix i hi hn,all]
def Zu {ι α:Type} (S:Sys ι α) (N:ι→Prop) (aI:ι→Nat) (k:Nat) (X:Ext ι α):Prop:=
 ∀ Y:Ext ι α,(∀ i,¬ (N i∧aI i=k)→∀ x,Y i x=X i x)→(∀ i,N i→aI i=k→∀ x,S.T i Y x→Y i x=true)→∀ i,N i→aI i=k→∀ x,X i x=true→Y i x=true
open Classical in
theorem agX {ι α:Type} {S:Sys ι α} {N:ι→Prop} {aI:ι→Nat} (hs:aiq S N aI) {m:Nat} {X X':Ext ι α} (h:∀ i,¬ (N i∧m<aI i)→∀ x,X i x=X' i x) (hX:Zu S N aI m X):Zu S N aI m X':=by
 intro Y hY hp i hi hl x hx
 have key:=hX (fun i x=>if N i∧m<aI i then X i x else Y i x) (fun j hj y=>?_) (fun j hj hlj y hy=>?_) i hi hl x (by rw [h i (by omega)];exact hx)
 · rw [if_neg (by omega)] at key;exact key
 · by_cases hc:N j∧m<aI j
   · rw [if_pos hc]
   · rw [if_neg hc,hY j hj,h j hc]
 · rw [if_neg (by omega)]
   have same:∀ t,(S.pos j t∨S.neg j t)→¬ (N t∧m<aI t):=fun t ht hc=>by
    rcases ht with ht|ht
    · have:=(hs j t hj hc.1).1 ht;omega
    · have:=(hs j t hj hc.1).2 ht;omega
   refine hp j hj hlj y (S.mono j _ Y (fun t ht z hz=>?_) (fun t ht z=>?_) y hy)
   · rw [if_neg (same t (.inl ht))] at hz;exact hz
   · rw [if_neg (same t (.inr ht))]
def canon (fs:List aN) (l:List (Int×Unit)):Prop:=l=(fs.filter fun f=>fG l f.1).map fun f=>(f.1,())
def distinct (fs:List aN):Prop:=∀ f∈fs,∀ g∈fs,f.1=g.1→f=g
theorem anM {fs:List aN} (hd:distinct fs) (q:List bK) (X:BX):canon fs (sel fs q X):=by
 show _=List.map _ (List.filter _ _)
 conv=>lhs;unfold sel
 congr 1
 apply List.filter_congr
 intro f hf
 rw [Bool.eq_iff_iff,Iu,agV]
 exact ⟨fun h=>⟨f,hf,rfl,h⟩,fun ⟨g,hg,e,hm⟩=>by rw [hd f hf g hg e.symm];exact hm⟩
theorem ahE {fs:List aN} {l:List (Int×Unit)} (h:canon fs l):l.length≤fs.length:=by
 rw [h,List.length_map];exact List.length_filter_le _ _
theorem filter_lt {α:Type} {p q:α→Bool} (h:∀ x,p x=true→q x=true):∀ {l:List α},(∃ x∈l,q x=true∧p x=false)→(l.filter p).length<(l.filter q).length
 |[],h'=>by obtain ⟨x,hx,_⟩:=h';cases hx
 |y::r,h'=>by
  have le:(r.filter p).length≤(r.filter q).length:=by
   clear h'
   induction r with
   |nil=>exact Nat.le_refl _
   |cons z t ih=>
    cases hp:p z with
    |true=>rw [List.filter_cons_of_pos hp,List.filter_cons_of_pos (h z hp)];simpa using ih
    |false=>
     rw [List.filter_cons_of_neg (by simp [hp])]
     cases hq:q z with
     |true=>rw [List.filter_cons_of_pos hq];exact Nat.le_succ_of_le ih
     |false=>rw [List.filter_cons_of_neg (by simp [hq])];exact ih
  obtain ⟨x,hx,hq,hp⟩:=h'
  rcases List.mem_cons.1 hx with rfl|hx
  · rw [List.filter_cons_of_pos hq,List.filter_cons_of_neg (by simp [hp])]
    exact Nat.lt_succ_of_le le
  · have ih:=filter_lt h ⟨x,hx,hq,hp⟩
    cases hp':p y with
    |true=>rw [List.filter_cons_of_pos hp',List.filter_cons_of_pos (h y hp')];simpa using ih
    |false=>
     rw [List.filter_cons_of_neg (by simp [hp'])]
     cases hq':q y with
     |true=>rw [List.filter_cons_of_pos hq'];exact Nat.lt_succ_of_lt ih
     |false=>rw [List.filter_cons_of_neg (by simp [hq'])];exact ih
theorem amv {fs:List aN} {a b:List (Int×Unit)} (ha:canon fs a) (hb:canon fs b) (h:∀ x,fG a x=true→fG b x=true) (hne:b≠a):a.length<b.length:=by
 rw [ha,hb,List.length_map,List.length_map]
 refine filter_lt (p:=fun f:aN=>fG a f.1) (q:=fun f:aN=>fG b f.1) (fun f=>h f.1) (Classical.byContradiction fun hno=>hne ?_)
 rw [ha,hb]
 congr 1
 apply List.filter_congr
 intro f hf
 cases hb':fG b f.1 with
 |false=>
  cases ha':fG a f.1 with
  |false=>rfl
  |true=>rw [h _ ha'] at hb';cases hb'
 |true=>
  cases ha':fG a f.1 with
  |true=>rfl
  |false=>exact (hno ⟨f,hf,hb',ha'⟩).elim
structure nK (fs:List aN) (d:List aC) (r:List dL) (nm:Bytes→Bool) (aI:List (Int×Unit)) (k:Nat) (out:List dL):Prop where
 order:tY d out
 kept:∀ i,i<d.length→nm (nameOf d i)=false→iH out i=fK r (nameOf d i)
 later:∀ i,i<d.length→nm (nameOf d i)=true→(k:Int)<lv aI i→iH out i=[]
 done:∀ i,i<d.length→nm (nameOf d i)=true→lv aI i<k→iH out i=sel fs (dQ d i) (bD out)
 Y4:∀ m,m<k→Zu (Qc fs d) (due d nm) (LH d aI) m (bD out)
 ajW:∀ i,i<d.length→nm (nameOf d i)=true→lv aI i=k→∀ x,fG (iH out i) x=true→(x,())∈sel fs (dQ d i) (bD out)
 least:Zu (Qc fs d) (due d nm) (LH d aI) k (bD out)
 canon:∀ i,i<d.length→nm (nameOf d i)=true→canon fs (iH out i)
theorem aoB {fs:List aN} {d:List aC} {r:List dL} {nm:Bytes→Bool} {aI:List (Int×Unit)} (h:bF d=true) (hl:ku d aI) {out:List dL} (ho:tY d out)
 (h1:∀ i,i<d.length→nm (nameOf d i)=false→iH out i=fK r (nameOf d i)) (h2:∀ i,i<d.length→nm (nameOf d i)=true→iH out i=[]):nK fs d r nm aI 0 out where
 order:=ho
 kept:=h1
 later:=fun i hi hn _=>h2 i hi hn
 done:=fun i hi _ hlt=>by have:=(hl.2.1 i hi).1;omega
 Y4:=fun m hm=>by omega
 ajW:=fun i hi hn _ x hx=>by rw [h2 i hi hn] at hx;cases hx
 least:=fun Y _ _ s hs _ x hx=>by
  obtain ⟨hn,i,hi,rfl⟩:=hs
  have hx:fG (fK out (nameOf d i)) x=true:=hx
  rw [uX h ho hi,h2 i hi hn] at hx;cases hx
 canon:=fun i hi hn=>by rw [h2 i hi hn];show []=List.map _ (List.filter _ _);rw [List.filter_eq_nil_iff.2 (fun f _=>by simp [fG])];rfl
theorem Qd {out:List dL} {i j:Nat} {x:dL} (hi:i<out.length):sJ (out.set i x) j=if j=i then x else sJ out j:=by
 unfold sJ
 rw [List.getD_eq_getElem?_getD,List.getElem?_set]
 by_cases h:j=i
 · subst h;rw [if_pos rfl,if_pos hi,if_pos rfl];rfl
 · rw [if_neg (fun e=>h e.symm),if_neg h,← List.getD_eq_getElem?_getD]
theorem ahF {d:List aC} {out:List dL} (ho:tY d out) {i:Nat} (hi:i<d.length) (l:List (Int×Unit)):tY d (out.set i (nameOf d i,l,())):=by
 refine ⟨by rw [List.length_set];exact ho.1,fun j hj=>?_⟩
 rw [Qd (by rw [ho.1];exact hi)]
 split
 · next e=>rw [e]
 · exact ho.2 j hj
theorem anN {d:List aC} (h:bF d=true) {out:List dL} (ho:tY d out) {i:Nat} (hi:i<d.length) (l:List (Int×Unit)):
 (∀ x,bD (out.set i (nameOf d i,l,())) (nameOf d i) x=fG l x)∧∀ s,s≠nameOf d i→∀ x,bD (out.set i (nameOf d i,l,())) s x=bD out s x:=by
 have ho':=ahF ho hi l
 refine ⟨fun x=>?_,fun s hs x=>?_⟩
 · refine Zt ?_ x
   rw [uX h ho' hi]
   unfold iH
   rw [Qd (by rw [ho.1];exact hi),if_pos rfl]
 · refine Zt ?_ x
   by_cases hd:∃ j,j<d.length∧nameOf d j=s
   · obtain ⟨j,hj,rfl⟩:=hd
     rw [uX h ho' hj,uX h ho hj]
     unfold iH
     rw [Qd (by rw [ho.1];exact hi),if_neg (fun e=>hs (by rw [e]))]
   · have hd':∀ i,i<d.length→nameOf d i≠s:=fun i hi e=>hd ⟨i,hi,e⟩
     rw [KX ho' hd',KX ho hd']
theorem Zv {fs:List aN} {d:List aC} (h:bF d=true) {i:Nat} (hi:i<d.length) {X:BX} {x:Int}:(Qc fs d).T (nameOf d i) X x↔(x,())∈sel fs (dQ d i) X:=by
 constructor
 · rintro ⟨j,hj,e,hx⟩
   have:=HY h hj hi e
   subst this;exact hx
 · exact fun hx=>⟨i,hi,rfl,hx⟩
theorem at_set {fs:List aN} {d:List aC} {r:List dL} {nm:Bytes→Bool} {aI:List (Int×Unit)} {k:Nat} {out:List dL} (h:bF d=true) (hl:ku d aI) (hf:distinct fs) (A:nK fs d r nm aI k out) {i:Nat} (hi:i<d.length) (hn:nm (nameOf d i)=true) (hk:lv aI i=k):
 nK fs d r nm aI k (out.set i (nameOf d i,sel fs (dQ d i) (bD out),()))∧(sel fs (dQ d i) (bD out)≠iH out i→(iH out i).length<(sel fs (dQ d i) (bD out)).length)∧(sel fs (dQ d i) (bD out)).length≤fs.length:=by
 have hc:=anM hf (dQ d i) (bD out)
 have hol:i<out.length:=by rw [A.order.1];exact hi
 have hs:=H6 (fs:=fs) h hl nm
 have hd:due d nm (nameOf d i):=⟨hn,i,hi,rfl⟩
 have hlv:LH d aI (nameOf d i)=k:=by rw [zH h hi,hk];rfl
 obtain ⟨g1,g2⟩:=anN h A.order hi (sel fs (dQ d i) (bD out))
 have up:∀ s x,bD out s x=true→bD (out.set i (nameOf d i,sel fs (dQ d i) (bD out),())) s x=true:=fun s x hx=>by
  by_cases e:s=nameOf d i
  · subst e
    rw [g1,Iu]
    refine A.ajW i hi hn hk x ?_
    have hx:fG (fK out (nameOf d i)) x=true:=hx
    rw [uX h A.order hi] at hx;exact hx
  · rw [g2 s e];exact hx
 have off:∀ s,¬ (due d nm s∧LH d aI s=k)→∀ x,bD out s x=bD (out.set i (nameOf d i,sel fs (dQ d i) (bD out),())) s x:=fun s hs' x=>(g2 s (fun e=>hs' (by rw [e];exact ⟨hd,hlv⟩)) x).symm
 have ids:∀ j,iH (out.set i (nameOf d i,sel fs (dQ d i) (bD out),())) j=if j=i then sel fs (dQ d i) (bD out) else iH out j:=fun j=>by
  unfold iH
  rw [Qd hol]
  split<;>rfl
 refine ⟨⟨ahF A.order hi _,fun j hj SQ=>?_,fun j hj SQ hlj=>?_,fun j hj SQ hlj=>?_,fun m hm=>?_,fun j hj SQ hlj x hx=>?_,?_,fun j hj SQ=>?_⟩,fun hne=>?_,ahE hc⟩
 · rw [ids,if_neg (fun e=>by rw [e,hn] at SQ;cases SQ)];exact A.kept j hj SQ
 · rw [ids,if_neg (fun e=>by rw [e,hk] at hlj;omega)];exact A.later j hj SQ hlj
 · rw [ids,if_neg (fun e=>by rw [e,hk] at hlj;omega),A.done j hj SQ hlj]
   refine YZ fun b s hsd x=>off s (fun hc=>?_) x
   have hdj:due d nm (nameOf d j):=⟨SQ,j,hj,rfl⟩
   have:=hs (nameOf d j) s hdj hc.1
   have ar7:LH d aI (nameOf d j)<k:=by rw [zH h hj];have:=(hl.2.1 j hj).1;omega
   cases b with
   |false=>have:=this.1 ⟨j,hj,rfl,hsd⟩;omega
   |true=>have:=this.2 ⟨j,hj,rfl,hsd⟩;omega
 · exact agX hs (fun s hs'=>off s fun hc=>hs' ⟨hc.1,by omega⟩) (A.Y4 m hm)
 · have hT:(Qc fs d).T (nameOf d j) (bD out) x:=by
    rw [Zv h hj]
    rw [ids] at hx
    by_cases e:j=i
    · rw [if_pos e,Iu] at hx;rw [e];exact hx
    · rw [if_neg e] at hx;exact A.ajW j hj SQ hlj x hx
   rw [← Zv h hj]
   refine (Qc fs d).mono _ _ _ (fun s _=>up s) (fun s hsd=>off s fun hc=>?_) x hT
   have:=(hs (nameOf d j) s ⟨SQ,j,hj,rfl⟩ hc.1).2 hsd
   have ar7:LH d aI (nameOf d j)=k:=by rw [zH h hj,hlj];rfl
   omega
 · intro Y hY hp s hsd hls x hx
   have WX:∀ t,¬ (due d nm t∧LH d aI t=k)→∀ x,Y t x=bD out t x:=fun t ht x=>(hY t ht x).trans (off t ht x).symm
   have base:=A.least Y WX hp
   by_cases e:s=nameOf d i
   · subst e
     rw [g1,Iu,← Zv h hi] at hx
     refine hp _ hsd hls x ((Qc fs d).mono _ _ _ (fun t _ y hy=>?_) (fun t ht y=>?_) x hx)
     · by_cases ht:due d nm t∧LH d aI t=k
       · exact base t ht.1 ht.2 y hy
       · rw [WX t ht];exact hy
     · refine (WX t (fun hc=>?_) y).symm
       have:=(hs (nameOf d i) t hd hc.1).2 ht
       omega
   · rw [g2 s e] at hx
     exact base s hsd hls x hx
 · rw [ids]
   split
   · exact hc
   · exact A.canon j hj SQ
 · refine amv (A.canon i hi hn) hc (fun x hx=>?_) hne
   rw [Iu];exact A.ajW i hi hn hk x hx
theorem at_next {fs:List aN} {d:List aC} {r:List dL} {nm:Bytes→Bool} {aI:List (Int×Unit)} {k:Nat} {out:List dL} (h:bF d=true) (A:nK fs d r nm aI k out) (hstill:∀ i,i<d.length→nm (nameOf d i)=true→lv aI i=k→sel fs (dQ d i) (bD out)=iH out i):nK fs d r nm aI (k+1) out where
 order:=A.order
 kept:=A.kept
 later:=fun i hi hn hlt=>A.later i hi hn (by omega)
 done:=fun i hi hn hlt=>by
  by_cases e:lv aI i=k
  · exact (hstill i hi hn e).symm
  · exact A.done i hi hn (by omega)
 Y4:=fun m hm=>by
  by_cases e:m=k
  · subst e;exact A.least
  · exact A.Y4 m (by omega)
 ajW:=fun i hi hn hl x hx=>by rw [A.later i hi hn (by omega)] at hx;cases hx
 least:=fun Y _ _ s hs hls x hx=>by
  obtain ⟨hn,i,hi,rfl⟩:=hs
  rw [zH h hi] at hls
  have hx:fG (fK out (nameOf d i)) x=true:=hx
  rw [uX h A.order hi,A.later i hi hn (by omega)] at hx;cases hx
 canon:=A.canon
theorem at_end {fs:List aN} {d:List aC} {r:List dL} {nm:Bytes→Bool} {aI:List (Int×Unit)} {k:Nat} {out:List dL} (h:bF d=true) (hl:ku d aI) (A:nK fs d r nm aI k out) (hk:∀ i,i<d.length→lv aI i<k):fM fs d r nm out where
 order:=A.order
 kept:=A.kept
 fix:=fun i hi hn=>A.done i hi hn (hk i hi)
 aI:=⟨aI,hl,{
  fix:=fun s hs x=>by
   obtain ⟨hn,i,hi,rfl⟩:=hs
   rw [Zv h hi,← A.done i hi hn (hk i hi),← Iu,← uX h A.order hi];rfl
  least:=fun m Y hY hp s hs hls=>by
   have hm:m<k:=by
    obtain ⟨hn,i,hi,rfl⟩:=hs
    rw [zH h hi] at hls
    have:=hk i hi
    have:=(hl.2.1 i hi).1
    omega
   exact A.Y4 m hm Y hY hp s hs hls}⟩
def room (n:Nat) (out:List dL):Nat:=(out.map fun x=>n-x.2.1.length).sum
theorem ac8 {n:Nat}:∀ {out:List dL} {i:Nat} {x:dL},i<out.length→(iH out i).length<x.2.1.length→x.2.1.length≤n→room n (out.set i x)<room n out
 |[],i,x,h,_,_=>by simp at h
 |y::r,0,x,_,h1,h2=>by
  have h1:y.2.1.length<x.2.1.length:=h1
  show ((x::r).map fun x=>n-x.2.1.length).sum<((y::r).map fun x=>n-x.2.1.length).sum
  rw [List.map_cons,List.sum_cons,List.map_cons,List.sum_cons]
  omega
 |y::r,i+1,x,h,h1,h2=>by
  have ih:=ac8 (out:=r) (i:=i) (x:=x) (by simpa using h) h1 h2
  show ((y::r.set i x).map fun x=>n-x.2.1.length).sum<((y::r).map fun x=>n-x.2.1.length).sum
  rw [List.map_cons,List.sum_cons,List.map_cons,List.sum_cons]
  unfold room at ih
  omega
end Sp
namespace Sp
open Go
abbrev qF:=Bytes×List (Int×Unit)×List (Int×Unit)×Unit
abbrev gm:=List gW×List aN×Int×List aC×List dL×Unit
instance:DecidableEq (List (Int×Unit)):=inferInstance
instance:DecidableEq dL:=inferInstance
instance:DecidableEq (List dL):=inferInstance
instance:DecidableEq (List dL×Unit):=inferInstance
instance:DecidableEq (List aC×List dL×Unit):=inferInstance
instance:DecidableEq (Int×List aC×List dL×Unit):=inferInstance
instance:DecidableEq (List aN×Int×List aC×List dL×Unit):=inferInstance
instance asZ:DecidableEq gm:=(inferInstance:DecidableEq (List gW×List aN×Int×List aC×List dL×Unit))
def dA (l:LS) (s:Bytes):Bool:=l.any fun x=>x.1==s
theorem gB {l:LS} {s:Bytes}:dA l s=true↔(s,())∈l:=by
 unfold dA
 rw [List.any_eq_true]
 exact ⟨fun ⟨y,hy,h⟩=>by rw [← beq_iff_eq.1 h];exact hy,fun h=>⟨_,h,beq_iff_eq.2 rfl⟩⟩
def bH (r:List dL):Prop:=r.length≤1000∧∀ x∈r,x.2.1.length≤1000
def aT (c:gm):bT:=(c.1,c.2.1,c.2.2.1,())
def bJ (c:gm):List aC:=c.2.2.2.1
def uV (c:gm):List dL:=c.2.2.2.2.1
def dO (c:gm):Prop:=bn (aT c)∧aA (bJ c)∧bH (uV c)
def Tf (f:aN):Prop:=f.2.2.2.2.1.length≤500
def Zb (c:gm):Prop:=∀ f∈c.2.1,Tf f
def fE (d:List aC):LS:=d.map fun x=>(x.1,())
def WB (d:List aC) (m:Int):Prop:=m≤1000∧∀ aI,ai d=true→ku d aI→∀ i,i<d.length→lv aI i≤m
open Classical in
noncomputable def dF (c:gm):Bool:=ai (bJ c)&&ax (aT c)&&decide (fM c.2.1 (bJ c) [] (fun _=>true) (uV c))
def fU (a:List fD):LS:=a.map fun x=>(x.1,())
def jc (f g:aN):List Bytes:=((f.2.2.2.2.1++g.2.2.2.2.1).map fun a=>a.1).filter fun s=>!decide (dB f.2.2.2.2.1 s=dB g.2.2.2.2.1 s)
def kS (q:List bK):List Bytes:=(q.filter fun n=>n.1==2||(n.1==3||n.1==4)).map fun n=>n.2.2.2.1
def nS (q:List bK):List Bytes:=(q.filter jA).map fun n=>n.2.2.2.1
def linked (q:List bK):Bool:=q.any fun n=>n.1==9
def asking (d:List aC) (name:Bytes):LS:=(d.filter fun x=>(nS x.2.1).contains name).map fun x=>(x.1,())
inductive Reach (d:List aC) (P:Bytes→Prop):Bytes→Prop where
 |base {s}:P s→Reach d P s
 |step {s i}:Reach d P s→i<d.length→s∈nS (dQ d i)→Reach d P (nameOf d i)
def isSet (r:LS) (P:Bytes→Prop):Prop:=r.length≤1000∧∀ s,dA r s=true↔P s
def reached (d:List aC) (names r:LS):Prop:=isSet r (Reach d fun s=>dA names s=true)
def JZ (d:List aC) (f g:aN) (s:Bytes):Prop:=
 ∃ i,i<d.length∧nameOf d i=s∧(f.1≠g.1∨(∃ t,t∈kS (dQ d i)∧t∈jc f g)∨(linked (dQ d i)=true∧f.2.2.2.1≠g.2.2.2.1))
def touched (d:List aC) (f g:aN) (r:LS):Prop:=r.length≤d.length∧∀ s,dA r s=true↔JZ d f g s
def Vb (d:List aC) (f g:aN):Bytes→Prop:=Reach d (JZ d f g)
open Classical in
noncomputable def ags (d:List aC) (f g:aN) (s:Bytes):Bool:=decide (Vb d f g s)
def without (a b:List (Int×Unit)):List (Int×Unit):=a.filter fun x=>!fG b x.1
def tV (a:List dL) (x:dL):qF:=(x.1,without x.2.1 (fK a x.1),without (fK a x.1) x.2.1,())
def zx (y:qF):Bool:=decide (0<y.2.1.length+y.2.2.1.length)
def Fb (a b:List dL):List qF:=(b.map (tV a)).filter zx
def turned (c:gm) (s:bT) (d:List aC) (nm:Bytes→Bool) (c':gm) (df:List qF) (ok:Bool):Prop:=
 ok=(ai d&&ax s)∧(ok=true→aT c'=s∧bJ c'=d∧fM s.2.1 d (uV c) nm (uV c')∧df=Fb (uV c) (uV c'))∧(ok=false→c'=c∧df=[])
def updated (c:gm) (f:aN) (c':gm) (df:List qF) (ok:Bool):Prop:=
 ok=(dF c&&(aV (aT c) f).2)∧
 (ok=true→aT c'=(aV (aT c) f).1∧bJ c'=bJ c∧fM (aV (aT c) f).1.2.1 (bJ c) (uV c) (ags (bJ c) (aO (aT c) f.1).1 f) (uV c')∧df=Fb (uV c) (uV c'))∧
 (ok=false→c'=c∧df=[])
def Pn (c:gm):Prop:=dO c∧c.1=usual∧0<c.2.1.length∧dF c=true
def JX (fs:List aN) (d:List aC) (r:List dL) (nm:Bytes→Bool) (aI:List (Int×Unit)) (k:Nat) (Y5:List dL) (i:Nat) (c:Bool) (out:List dL):Prop:=
 nK fs d r nm aI k out∧(c=true→room fs.length out<room fs.length Y5)∧
  (c=false→out=Y5∧∀ j,j<i→j<d.length→nm (nameOf d j)=true→lv aI j=k→sel fs (dQ d j) (bD out)=iH out j)
theorem BL {fs:List aN} {d:List aC} {r:List dL} {nm:Bytes→Bool} {aI:List (Int×Unit)} {k i:Nat} {Y5 out:List dL} {c:Bool} (h:JX fs d r nm aI k Y5 i c out) (hs:nm (nameOf d i)=true→lv aI i=k→sel fs (dQ d i) (bD out)=iH out i):JX fs d r nm aI k Y5 (i+1) c out:=
 ⟨h.1,h.2.1,fun hc=>⟨(h.2.2 hc).1,fun j hj hd hn hl=>by
   rcases Nat.lt_or_ge j i with h'|h'
   · exact (h.2.2 hc).2 j h' hd hn hl
   · have:j=i:=by omega
     subst this;exact hs hn hl⟩⟩
theorem acA {fs:List aN} {d:List aC} {r:List dL} {nm:Bytes→Bool} {aI:List (Int×Unit)} {k i:Nat} {Y5 out:List dL} {c:Bool} (hd:bF d=true) (hl:ku d aI) (hf:distinct fs) (h:JX fs d r nm aI k Y5 i c out) (hi:i<d.length) (hn:nm (nameOf d i)=true) (hk:lv aI i=k) (hne:sel fs (dQ d i) (bD out)≠iH out i):
 JX fs d r nm aI k Y5 (i+1) true (out.set i ((sJ out i).1,sel fs (dQ d i) (bD out),())):=by
 obtain ⟨A,h1,h2⟩:=h
 rw [A.order.2 i hi]
 obtain ⟨g1,g2,g3⟩:=at_set hd hl hf A hi hn hk
 refine ⟨g1,fun _=>?_,fun h=>by cases h⟩
 have hr:room fs.length (out.set i (nameOf d i,sel fs (dQ d i) (bD out),()))<room fs.length out:=ac8 (by rw [A.order.1];exact hi) (g2 hne) g3
 cases c with
 |true=>have:=h1 rfl;omega
 |false=>rw [(h2 rfl).1] at hr ⊢;exact hr
theorem Qw {fs:List aN} {d:List aC} {r:List dL} {nm:Bytes→Bool} {aI:List (Int×Unit)} {k:Nat} {out:List dL} (A:nK fs d r nm aI k out) (hd:d.length≤1000) (hf:fs.length≤1000) (hr:bH r):bH out:=by
 refine ⟨by rw [A.order.1];exact hd,fun x hx=>?_⟩
 obtain ⟨i,hi,rfl⟩:=List.getElem_of_mem hx
 have hi':i<d.length:=by rw [← A.order.1];exact hi
 have e:(out[i]).2.1=iH out i:=by
  unfold iH sJ
  rw [List.getD_eq_getElem?_getD,List.getElem?_eq_getElem hi];rfl
 rw [e]
 cases hn:nm (nameOf d i) with
 |true=>exact Nat.le_trans (ahE (A.canon i hi' hn)) hf
 |false=>
  rw [A.kept i hi' hn]
  have:∀ l:List dL,(∀ x∈l,x.2.1.length≤1000)→(fK l (nameOf d i)).length≤1000:=by
   intro l
   induction l with
   |nil=>exact fun _=>Nat.zero_le _
   |cons x t ih=>
    intro hl
    rw [fK]
    cases x.1==nameOf d i with
    |true=>exact hl x List.mem_cons_self
    |false=>exact ih fun y hy=>hl y (List.mem_cons_of_mem _ hy)
  exact this r hr.2
def qJ (r:List dL) (nm:Bytes→Bool) (x:aC):dL:=(x.1,bif nm x.1 then [] else fK r x.1,())
theorem ac9 {d:List aC} {r:List dL} {nm:Bytes→Bool} {i:Nat} (hi:i<d.length):sJ (d.map (qJ r nm)) i=qJ r nm (bG d i):=by
 unfold sJ bG
 rw [List.getD_eq_getElem?_getD,List.getD_eq_getElem?_getD,List.getElem?_map,List.getElem?_eq_getElem hi];rfl
theorem Ku {fs:List aN} {d:List aC} {r:List dL} {nm:Bytes→Bool} {aI:List (Int×Unit)} (hd:bF d=true) (hl:ku d aI):nK fs d r nm aI 0 (d.map (qJ r nm)):=by
 refine aoB hd hl ⟨by simp,fun i hi=>?_⟩ (fun i hi hn=>?_) fun i hi hn=>?_
 · rw [ac9 hi];rfl
 · unfold iH
   rw [ac9 hi]
   show (bif nm (nameOf d i) then [] else fK r (nameOf d i))=_
   rw [hn];rfl
 · unfold iH
   rw [ac9 hi]
   show (bif nm (nameOf d i) then [] else fK r (nameOf d i))=_
   rw [hn];rfl
theorem UF {s:bT} (h:ax s=true):∀ (j i:Nat),i<j→j<s.2.1.length→(fileAt s.2.1 i).1<(fileAt s.2.1 j).1:=by
 intro j
 induction j with
 |zero=>intro i hi;omega
 |succ j ih=>
  intro i hi hj
  have h1:kK s (j+1)=true:=by
   unfold ax at h
   rw [Bool.and_eq_true,Bool.and_eq_true,Bool.and_eq_true] at h
   have:=h.1.1.1
   unfold jh at this
   exact List.all_eq_true.1 this (j+1) (List.mem_range.2 hj)
  have h2:(fileAt s.2.1 j).1<(fileAt s.2.1 (j+1)).1:=by
   unfold kK at h1
   rw [Bool.and_eq_true] at h1
   have:=h1.2
   rw [decide_eq_true (Nat.succ_pos j)] at this
   simpa using this
  rcases Nat.lt_or_ge i j with h3|h3
  · exact Int.lt_trans (ih i h3 (by omega)) h2
  · have:i=j:=by omega
    subst this;exact h2
theorem rW {s:bT} (h:ax s=true):distinct s.2.1:=by
 intro f hf g hg e
 obtain ⟨i,hi,rfl⟩:=List.getElem_of_mem hf
 obtain ⟨j,hj,rfl⟩:=List.getElem_of_mem hg
 have at_:∀ k (hk:k<s.2.1.length),fileAt s.2.1 k=s.2.1[k]:=fun k hk=>by
  unfold fileAt
  rw [List.getD_eq_getElem?_getD,List.getElem?_eq_getElem hk];rfl
 rcases Nat.lt_trichotomy i j with h1|h1|h1
 · have:=UF h j i h1 hj
   rw [at_ i hi,at_ j hj] at this;omega
 · subst h1;rfl
 · have:=UF h i j h1 hi
   rw [at_ i hi,at_ j hj] at this;omega
theorem Kv {fs:List aN} {d:List aC} {r r':List dL} {nm nm':Bytes→Bool} {out:List dL} (h:fM fs d r nm out) (hn:∀ i,i<d.length→nm (nameOf d i)=nm' (nameOf d i)) (hr:∀ i,i<d.length→nm (nameOf d i)=false→fK r (nameOf d i)=fK r' (nameOf d i)):fM fs d r' nm' out:=by
 have hd:∀ s,due d nm s↔due d nm' s:=fun s=>by
  constructor
  · rintro ⟨a,i,hi,rfl⟩;exact ⟨by rw [← hn i hi];exact a,i,hi,rfl⟩
  · rintro ⟨a,i,hi,rfl⟩;exact ⟨by rw [hn i hi];exact a,i,hi,rfl⟩
 obtain ⟨aI,h1,h2⟩:=h.aI
 exact ⟨h.order,fun i hi h'=>by rw [← hn i hi] at h';rw [h.kept i hi h',hr i hi h'],fun i hi h'=>h.fix i hi (by rw [hn i hi];exact h'),aI,h1,
  fun s hs=>h2.fix s ((hd s).2 hs),fun k Y hY hp s hs=>h2.least k Y (fun t ht=>hY t fun h'=>ht ⟨(hd t).2 h'.1,h'.2⟩) (fun t ht=>hp t ((hd t).1 ht)) s ((hd s).2 hs)⟩
theorem amw {fs:List aN} {d:List aC} {r:List dL} {nm:Bytes→Bool} {aI:List (Int×Unit)} {k:Nat} (hd:bF d=true) (hl:ku d aI) (hf:distinct fs):∀ (n:Nat) (out:List dL),room fs.length out≤n→nK fs d r nm aI k out→∃ out',nK fs d r nm aI (k+1) out':=by
 intro n
 induction n using Nat.strongRecOn with
 |_ n ih=>
  intro out hn A
  by_cases hs:∀ i,i<d.length→nm (nameOf d i)=true→lv aI i=k→sel fs (dQ d i) (bD out)=iH out i
  · exact ⟨out,at_next hd A hs⟩
  · obtain ⟨i,hi⟩:=Classical.not_forall.1 hs
    have h1:i<d.length:=Classical.byContradiction fun h=>hi fun h'=>(h h').elim
    have h2:nm (nameOf d i)=true:=Classical.byContradiction fun h=>hi fun _ h'=>(h h').elim
    have h3:lv aI i=k:=Classical.byContradiction fun h=>hi fun _ _ h'=>(h h').elim
    have h4:sel fs (dQ d i) (bD out)≠iH out i:=fun h=>hi fun _ _ _=>h
    obtain ⟨g1,g2,g3⟩:=at_set hd hl hf A h1 h2 h3
    have hr:room fs.length (out.set i (nameOf d i,sel fs (dQ d i) (bD out),()))<room fs.length out:=ac8 (by rw [A.order.1];exact h1) (g2 h4) g3
    exact ih _ (by omega) _ (Nat.le_refl _) g1
theorem MX {fs:List aN} {d:List aC} (r:List dL) (nm:Bytes→Bool) {aI:List (Int×Unit)} (hd:bF d=true) (hl:ku d aI) (hf:distinct fs):∃ out,fM fs d r nm out:=by
 have:∀ k,∃ out,nK fs d r nm aI k out:=fun k=>by
  induction k with
  |zero=>exact ⟨_,Ku hd hl⟩
  |succ k ih=>
   obtain ⟨out,A⟩:=ih
   exact amw hd hl hf _ out (Nat.le_refl _) A
 obtain ⟨out,A⟩:=this (d.length+1)
 exact ⟨out,at_end hd hl A fun i hi=>by have:=(hl.2.1 i hi).2;omega⟩
end Sp
namespace Sp
open Go
theorem J6 {d:List aC} {out:List dL} (ho:tY d out) {s:Bytes} (hs:¬ ∃ i,i<d.length∧nameOf d i=s) (x:Int):bD out s x=false:=by
 unfold bD
 rw [KX ho fun i hi e=>hs ⟨i,hi,e⟩];rfl
theorem incr {fs fs':List aN} {d d':List aC} {old R E:List dL} {nm:Bytes→Bool} (hd:bF d=true) (hd':bF d'=true)
 (h1:fM fs d [] (fun _=>true) old) (h2:fM fs' d' old nm R) (h3:fM fs' d' [] (fun _=>true) E)
 (hcl:∀ i,i<d'.length→nm (nameOf d' i)=false→(∃ j,j<d.length∧nameOf d j=nameOf d' i∧dQ d j=dQ d' i)∧(∀ X,sel fs (dQ d' i) X=sel fs' (dQ d' i) X)∧∀ b,∀ s∈fB (dQ d' i) b,nm s=false)
 (hsub:∀ j,j<d.length→nm (nameOf d j)=false→∃ i,i<d'.length∧nameOf d' i=nameOf d j):R=E:=by
 obtain ⟨l1,hl1,e1⟩:=h1.aI
 obtain ⟨l2,hl2,e2⟩:=h2.aI
 obtain ⟨l3,hl3,e3⟩:=h3.aI
 have out1:∀ s,nm s=false→(¬ ∃ i,i<d'.length∧nameOf d' i=s)→∀ x,bD old s x=false:=fun s hn hs x=>
  J6 h1.order (fun ⟨j,hj,e⟩=>by obtain ⟨i,hi,e'⟩:=hsub j hj (by rw [e];exact hn);exact hs ⟨i,hi,e'.trans e⟩) x
 have ar8:=QO (U:=fun s=>nm s=false∧∃ i,i<d'.length∧nameOf d' i=s) e1 e3 (H6 hd hl1 _) (H6 hd' hl3 _)
  (fun s ⟨hn,i,hi,e⟩=>by subst e;obtain ⟨j,hj,e,_⟩:=(hcl i hi hn).1;exact ⟨rfl,j,hj,e⟩) (fun s ⟨_,hs⟩=>⟨rfl,hs⟩)
  (fun s ⟨hn,i,hi,e⟩ X x=>by
    subst e
    obtain ⟨⟨j,hj,e,eq⟩,hsel,_⟩:=hcl i hi hn
    rw [Zv hd' hi,← e,Zv hd hj,eq,hsel X])
  (fun s ⟨hn,i,hi,e⟩ t ⟨i2,hi2,e2,ht⟩=>by
    subst e
    obtain ⟨⟨j,hj,e,eq⟩,_⟩:=hcl i hi hn
    have:=HY hd' hi2 hi e2
    subst this
    exact ⟨j,hj,e,by unfold dQ at eq;rw [eq];exact ht⟩)
  (fun s ⟨hn,i,hi,e⟩ t ⟨i2,hi2,e2,ht⟩=>by
    subst e
    obtain ⟨⟨j,hj,e,eq⟩,_⟩:=hcl i hi hn
    have:=HY hd' hi2 hi e2
    subst this
    exact ⟨j,hj,e,by unfold dQ at eq;rw [eq];exact ht⟩)
  (fun s ⟨hn,i,hi,e⟩ t ht=>by
    subst e
    obtain ⟨⟨j,hj,e,eq⟩,_,amx⟩:=hcl i hi hn
    have hnt:nm t=false:=by
     rcases ht with ⟨j2,hj2,e2,ht⟩|⟨j2,hj2,e2,ht⟩
     · have:=HY hd hj2 hj (e2.trans e.symm)
       subst this
       exact amx false t (by rw [← eq];exact ht)
     · have:=HY hd hj2 hj (e2.trans e.symm)
       subst this
       exact amx true t (by rw [← eq];exact ht)
    by_cases hin:∃ i,i<d'.length∧nameOf d' i=t
    · exact .inl ⟨hnt,hin⟩
    · exact .inr fun x=>by rw [out1 t hnt hin,J6 h3.order hin])
 have off:∀ s,nm s=false→∀ x,bD old s x=bD E s x:=fun s hn x=>by
  by_cases hin:∃ i,i<d'.length∧nameOf d' i=s
  · exact ar8 s ⟨hn,hin⟩ x
  · rw [out1 s hn hin,J6 h3.order hin]
 have ar9:=QO (U:=due d' nm) e2 e3 (H6 hd' hl2 _) (H6 hd' hl3 _) (fun _ h=>h) (fun s ⟨_,h⟩=>⟨rfl,h⟩) (fun _ _ _ _=>Iff.rfl) (fun _ _ _ h=>h) (fun _ _ _ h=>h)
  fun s _ t _=>by
   by_cases ht:due d' nm t
   · exact .inl ht
   · refine .inr fun x=>?_
     by_cases hin:∃ i,i<d'.length∧nameOf d' i=t
     · obtain ⟨i,hi,rfl⟩:=hin
       have hn:nm (nameOf d' i)=false:=by rw [Bool.eq_false_iff];exact fun hn=>ht ⟨hn,i,hi,rfl⟩
       rw [← off _ hn]
       unfold bD
       rw [uX hd' h2.order hi,h2.kept i hi hn]
     · rw [J6 h2.order hin,J6 h3.order hin]
 have all:∀ s x,bD R s x=bD E s x:=fun s x=>by
  by_cases hs:due d' nm s
  · exact ar9 s hs x
  · by_cases hin:∃ i,i<d'.length∧nameOf d' i=s
    · obtain ⟨i,hi,rfl⟩:=hin
      have hn:nm (nameOf d' i)=false:=by rw [Bool.eq_false_iff];exact fun hn=>hs ⟨hn,i,hi,rfl⟩
      rw [← off _ hn]
      unfold bD
      rw [uX hd' h2.order hi,h2.kept i hi hn]
    · rw [J6 h2.order hin,J6 h3.order hin]
 refine alj h2.order h3.order fun i hi=>?_
 cases hn:nm (nameOf d' i) with
 |true=>
  rw [h2.fix i hi hn,h3.fix i hi rfl]
  exact YZ fun _ s _ x=>all s x
 |false=>
  obtain ⟨⟨j,hj,e,eq⟩,hsel,amx⟩:=hcl i hi hn
  rw [h2.kept i hi hn,← e,uX hd h1.order hj,h1.fix j hj rfl,h3.fix i hi rfl,eq,hsel]
  exact YZ fun b s hs x=>off s (amx b s hs) x
theorem J7:∀ {l:List fD} {s:Bytes},(∀ a∈l,a.1≠s)→dB l s=(0,0,[],())
 |[],_,_=>rfl
 |x::r,s,h=>by
  rw [dB,beq_eq_false_iff_ne.2 (h x List.mem_cons_self)]
  exact J7 fun a ha=>h a (List.mem_cons_of_mem _ ha)
theorem anO {f g:aN} {t:Bytes} (h:t ∉ jc f g):dB f.2.2.2.2.1 t=dB g.2.2.2.2.1 t:=by
 by_cases hm:t∈(f.2.2.2.2.1++g.2.2.2.2.1).map fun a=>a.1
 · refine Classical.byContradiction fun hne=>h ?_
   unfold jc
   rw [List.mem_filter]
   exact ⟨hm,by rw [decide_eq_false hne];rfl⟩
 · have:∀ a∈f.2.2.2.2.1++g.2.2.2.2.1,a.1≠t:=fun a ha e=>hm (List.mem_map.2 ⟨a,ha,e⟩)
   rw [J7 fun a ha=>this a (List.mem_append.2 (.inl ha)),J7 fun a ha=>this a (List.mem_append.2 (.inr ha))]
theorem ada {q:List bK} {a:Nat} (h:(nodeAt q a).1≠0):nodeAt q a∈q:=by
 unfold nodeAt at h ⊢
 rw [List.getD_eq_getElem?_getD] at h ⊢
 by_cases ha:a<q.length
 · rw [List.getElem?_eq_getElem ha];exact List.getElem_mem ha
 · rw [List.getElem?_eq_none (by omega)] at h;exact (h rfl).elim
theorem anP {q:List bK} {a:Nat} {f g:aN} {X:BX} (hid:f.1=g.1) (hat:∀ t∈kS q,dB f.2.2.2.2.1 t=dB g.2.2.2.2.1 t) (hlk:linked q=true→f.2.2.2.1=g.2.2.2.1):iJ (nodeAt q a) f X=iJ (nodeAt q a) g X:=by
 have at_:(nodeAt q a).1=2∨(nodeAt q a).1=3∨(nodeAt q a).1=4→dB f.2.2.2.2.1 (nodeAt q a).2.2.2.1=dB g.2.2.2.2.1 (nodeAt q a).2.2.2.1:=fun h=>by
  refine hat _ ?_
  unfold kS
  rw [List.mem_map]
  refine ⟨nodeAt q a,List.mem_filter.2 ⟨ada (by omega),?_⟩,rfl⟩
  simp only [Bool.or_eq_true,beq_iff_eq];exact h
 unfold iJ
 by_cases h2:(nodeAt q a).1=2
 · rw [at_ (.inl h2),beq_iff_eq.2 h2];rfl
 rw [beq_eq_false_iff_ne.2 h2]
 by_cases h3:(nodeAt q a).1=3
 · rw [at_ (.inr (.inl h3)),beq_iff_eq.2 h3];rfl
 rw [beq_eq_false_iff_ne.2 h3]
 by_cases h4:(nodeAt q a).1=4
 · rw [at_ (.inr (.inr h4)),beq_iff_eq.2 h4];rfl
 rw [beq_eq_false_iff_ne.2 h4]
 by_cases h8:(nodeAt q a).1=8
 · rw [beq_iff_eq.2 h8,hid]
   show (bif false then _ else _)=_
   rfl
 rw [beq_eq_false_iff_ne.2 h8]
 by_cases h9:(nodeAt q a).1=9
 · have:linked q=true:=by
    unfold linked
    exact List.any_eq_true.2 ⟨_,ada (by omega),beq_iff_eq.2 h9⟩
   rw [beq_iff_eq.2 h9,hlk this];rfl
 rw [beq_eq_false_iff_ne.2 h9];rfl
theorem aoC {q:List bK} {f g:aN} {X:BX} (hid:f.1=g.1) (hat:∀ t∈kS q,dB f.2.2.2.2.1 t=dB g.2.2.2.2.1 t) (hlk:linked q=true→f.2.2.2.1=g.2.2.2.1):∀ a,val q f X a=val q g X a:=by
 intro a
 induction a using Nat.strongRecOn with
 |_ a ih=>
  rw [KO q f X a,KO q g X a]
  split
  · split
    · next h=>rw [ih _ h]
    · rfl
  · split
    · split
      · next h=>rw [ih _ h.1,ih _ h.2]
      · rfl
    · split
      · split
        · next h=>rw [ih _ h.1,ih _ h.2]
        · rfl
      · exact anP hid hat hlk
theorem Y6 {q:List bK} {b:Bool} {s:Bytes} (h:s∈fB q b):s∈nS q:=by
 unfold fB at h
 rw [List.mem_filterMap] at h
 obtain ⟨i,hi,e⟩:=h
 cases hc:jA (nodeAt q i)&&((negated q).getD i (false,())).1==b with
 |false=>rw [hc] at e;cases e
 |true=>
  rw [hc] at e
  rw [Bool.and_eq_true] at hc
  have e:(nodeAt q i).2.2.2.1=s:=Option.some.inj e
  unfold nS
  rw [List.mem_map]
  refine ⟨nodeAt q i,List.mem_filter.2 ⟨ada fun h0=>?_,hc.1⟩,e⟩
  have:=hc.1
  unfold jA at this
  rw [h0] at this
  cases this
theorem apH {fs:List aN} {q:List bK} {X:BX} {n:Nat} {g:aN} (hn:n<fs.length) (hid:(fileAt fs n).1=g.1) (hm:iI q (fileAt fs n) X=iI q g X):sel (fs.set n g) q X=sel fs q X:=by
 have form:∀ l:List aN,sel l q X=(l.map fun f=>(iI q f X,f.1)).filterMap fun p=>bif p.1 then some (p.2,()) else none:=fun l=>by
  unfold sel
  induction l with
  |nil=>rfl
  |cons f r ih=>
   rw [List.map_cons,List.filterMap_cons]
   cases h:iI q f X with
   |true=>rw [List.filter_cons_of_pos (p:=fun f=>iI q f X) h,List.map_cons,ih];rfl
   |false=>rw [List.filter_cons_of_neg (p:=fun f=>iI q f X) (by simp [h]),ih];rfl
 rw [form,form,List.map_set]
 congr 1
 have hat:fileAt fs n=fs[n]:=by unfold fileAt;rw [List.getD_eq_getElem?_getD,List.getElem?_eq_getElem hn];rfl
 rw [hat] at hid hm
 have:(iI q g X,g.1)=(fs.map fun f=>(iI q f X,f.1))[n]'(by rw [List.length_map];exact hn):=by rw [List.getElem_map,hm,hid]
 rw [this,List.set_getElem_self]
theorem aoq {fs:List aN} {d:List aC} {n:Nat} {g:aN} {old R E:List dL} (hd:bF d=true) (hn:n<fs.length) (hid:(fileAt fs n).1=g.1)
 (h1:fM fs d [] (fun _=>true) old) (h2:fM (fs.set n g) d old (ags d (fileAt fs n) g) R) (h3:fM (fs.set n g) d [] (fun _=>true) E):R=E:=by
 have aoD:∀ s,ags d (fileAt fs n) g s=true↔Vb d (fileAt fs n) g s:=fun s=>@decide_eq_true_iff _ (Classical.propDecidable _)
 refine incr hd hd h1 h2 h3 (fun i hi hna=>⟨⟨i,hi,rfl,rfl⟩,fun X=>?_,fun b s hs=>?_⟩) fun j hj _=>⟨j,hj,rfl⟩
 · have hna:¬ Vb d (fileAt fs n) g (nameOf d i):=fun h=>by rw [(aoD _).2 h] at hna;cases hna
   have hnt:¬ JZ d (fileAt fs n) g (nameOf d i):=fun h=>hna (.base h)
   refine (apH hn hid ?_).symm
   unfold iI
   rw [aoC hid (fun t ht=>?_) fun hl=>?_]
   · exact anO fun hc=>hnt ⟨i,hi,rfl, .inr (.inl ⟨t,ht,hc⟩)⟩
   · exact Classical.byContradiction fun hne=>hnt ⟨i,hi,rfl, .inr (.inr ⟨hl,hne⟩)⟩
 · rw [Bool.eq_false_iff]
   intro hs'
   have:=(aoD s).1 hs'
   have h':Vb d (fileAt fs n) g (nameOf d i):= .step this hi (Y6 hs)
   rw [(aoD _).2 h'] at hna;cases hna
end Sp
namespace Sp
open Go
def asa (as:List fD):Prop:=as.Pairwise fun x y=>Op.bytesLess x.1 y.1=true
theorem adb {α:Type} {R:α→α→Prop} (ht:∀ a b c,R a b→R b c→R a c) (d:α):∀ (l:List α),(∀ i,i+1<l.length→R (l.getD i d) (l.getD (i+1) d))→l.Pairwise R
 |[],_=>List.Pairwise.nil
 |[x],_=>List.pairwise_singleton _ _
 |x::y::r,h=>by
  have ih:=adb ht d (y::r) fun i hi=>h (i+1) (by simpa using hi)
  have h0:R x y:=h 0 (by simp)
  refine List.pairwise_cons.2 ⟨fun z hz=>?_,ih⟩
  rcases List.mem_cons.1 hz with rfl|hz
  · exact h0
  · exact ht _ _ _ h0 ((List.pairwise_cons.1 ih).1 z hz)
theorem akG {fs:List gW} {as:List fD}:jT fs as=true↔(∀ a∈as,jm fs a.1 a.2.1 a.2.2.1 a.2.2.2.1=true)∧asa as:=by
 have at_:∀ i (hi:i<as.length),dn as i=as[i]:=fun i hi=>by unfold dn;rw [List.getD_eq_getElem?_getD,List.getElem?_eq_getElem hi];rfl
 unfold jT
 rw [show (jh as.length (jW fs as)=true)↔∀ i,i<as.length→jW fs as i=true from by
  unfold jh
  rw [List.all_eq_true]
  exact ⟨fun h i hi=>h i (List.mem_range.2 hi),fun h i hi=>h i (List.mem_range.1 hi)⟩]
 have one:∀ i,jW fs as i=true↔jm fs (dn as i).1 (dn as i).2.1 (dn as i).2.2.1 (dn as i).2.2.2.1=true∧(0<i→Op.bytesLess (dn as (i-1)).1 (dn as i).1=true):=fun i=>by
  unfold jW
  rw [Bool.and_eq_true]
  refine and_congr_right fun _=>?_
  by_cases h0:0<i
  · rw [decide_eq_true h0];simp [h0]
  · rw [decide_eq_false h0];simp [h0]
 constructor
 · intro h
   refine ⟨fun a ha=>?_,?_⟩
   · obtain ⟨i,hi,rfl⟩:=List.getElem_of_mem ha
     have:=((one i).1 (h i hi)).1
     rw [at_ i hi] at this;exact this
   · refine adb (R:=fun x y:fD=>Op.bytesLess x.1 y.1=true) (fun a b c h1 h2=>FI _ _ _ h1 h2) ([],0,0,[],()) as fun i hi=>?_
     exact ((one (i+1)).1 (h (i+1) hi)).2 (by omega)
 · rintro ⟨h1,h2⟩ i hi
   refine (one i).2 ⟨?_,fun h0=>?_⟩
   · rw [at_ i hi];exact h1 _ (List.getElem_mem hi)
   · rw [at_ i hi,at_ (i-1) (by omega)]
     exact List.pairwise_iff_getElem.1 h2 (i-1) i (by omega) hi (by omega)
theorem ajX {α:Type} [BEq α] [LawfulBEq α]:∀ (a b:List α),a.Nodup→(∀ x∈a,x∈b)→a.length≤b.length
 |[],_,_,_=>Nat.zero_le _
 |x::r,b,hn,h=>by
  rw [List.nodup_cons] at hn
  have hx:=h x List.mem_cons_self
  have ih:=ajX r (b.erase x) hn.2 fun y hy=>by
   have hne:y≠x:=fun e=>by subst e;exact hn.1 hy
   rw [List.mem_erase_of_ne hne]
   exact h y (List.mem_cons_of_mem _ hy)
  rw [List.length_erase_of_mem hx] at ih
  have:0<b.length:=List.length_pos_of_mem hx
  rw [List.length_cons];omega
theorem afv:∀ {fs:List gW} {s:Bytes},kindOf fs s≠0→s∈fs.map fun f=>f.1
 |[],_,h=>(h rfl).elim
 |f::r,s,h=>by
  rw [kindOf] at h
  by_cases e:f.1=s
  · rw [List.map_cons,e];exact List.mem_cons_self
  · rw [decide_eq_false e] at h
    rw [List.map_cons]
    exact List.mem_cons_of_mem _ (afv h)
theorem aor {fs:List gW} {as:List fD} (h:jT fs as=true):as.length≤fs.length:=by
 obtain ⟨h1,h2⟩:=akG.1 h
 have:=ajX (as.map fun a=>a.1) (fs.map fun f=>f.1) ?_ fun s hs=>?_
 · rw [List.length_map,List.length_map] at this;exact this
 · unfold List.Nodup
   rw [List.pairwise_map]
   exact h2.imp fun {a b} hab=>Iq hab
 · obtain ⟨a,ha,rfl⟩:=List.mem_map.1 hs
   have hm:=h1 a ha
   unfold jm at hm
   simp only [Bool.and_eq_true,decide_eq_true_eq,Bool.not_eq_true',decide_eq_false_iff_not] at hm
   exact afv (by rw [← hm.2];exact hm.1.2)
end Sp
namespace Sp
open Go
def belowD (name:Bytes) (x:aC):Bool:=Op.bytesLess x.1 name
def jY (name:Bytes) (x:aC):Bool:=!(x.1==name)
def jL (d:List aC) (x:aC):List aC:=d.takeWhile (belowD x.1)++x::(d.dropWhile (belowD x.1)).filter (jY x.1)
def bY (d:List aC) (x:aC):List aC×Bool:=bif bF d&&bF (jL d x) then (jL d x,true) else (d,false)
theorem ao6 {α:Type} (p:α→Bool):∀ l:List α,l.dropWhile p=l.drop (l.takeWhile p).length
 |[]=>rfl
 |x::r=>by
  rw [List.dropWhile_cons,List.takeWhile_cons]
  cases p x with
  |true=>simp only [if_true,List.length_cons,List.drop_succ_cons];exact ao6 p r
  |false=>rfl
theorem ao7 {α:Type} (p:α→Bool):∀ l:List α,l.takeWhile p=l.take (l.takeWhile p).length
 |[]=>rfl
 |x::r=>by
  rw [List.takeWhile_cons]
  cases p x with
  |true=>simp only [if_true,List.length_cons,List.take_succ_cons];exact congrArg (x::·) (ao7 p r)
  |false=>rfl
theorem Y7 {α:Type} (p:α→Bool) (d:α):∀ (l:List α) (k:Nat),k≤l.length→(∀ i,i<k→p (l.getD i d)=true)→(k<l.length→p (l.getD k d)=false)→(l.takeWhile p).length=k
 |[],0,_,_,_=>rfl
 |[],_+1,h,_,_=>by simp at h
 |x::r,0,_,_,h=>by
  have:p x=false:=h (by simp)
  rw [List.takeWhile_cons,this];rfl
 |x::r,k+1,hk,h1,h2=>by
  have:p x=true:=h1 0 (by omega)
  rw [List.takeWhile_cons,this]
  simp only [if_true,List.length_cons]
  rw [Y7 p d r k (by simpa using hk) (fun i hi=>h1 (i+1) (by omega)) fun h=>h2 (by simpa using h)]
theorem ade {α:Type} (p:α→Bool) (d:α):∀ (l:List α),(∀ i,i<(l.takeWhile p).length→p (l.getD i d)=true)∧((l.takeWhile p).length<l.length→p (l.getD (l.takeWhile p).length d)=false)
 |[]=>⟨fun i h=>by simp at h,fun h=>by simp at h⟩
 |x::r=>by
  obtain ⟨h1,h2⟩:=ade p d r
  rw [List.takeWhile_cons]
  cases hp:p x with
  |false=>exact ⟨fun i h=>by simp at h,fun _=>hp⟩
  |true=>
   simp only [if_true,List.length_cons]
   refine ⟨fun i hi=>?_,fun h=>h2 (by omega)⟩
   cases i with
   |zero=>exact hp
   |succ i=>exact h1 i (by omega)
theorem ajY {α:Type} (p:α→Bool) (l:List α):(l.takeWhile p).length≤l.length:=by
 have:=congrArg List.length (List.takeWhile_append_dropWhile (p:=p) (l:=l))
 rw [List.length_append] at this;omega
def mW (d:List aC) (s:Bytes):Nat:=(d.takeWhile (belowD s)).length
theorem ET (d:List aC) (x:aC):jL d x=d.take (mW d x.1)++x::(d.drop (mW d x.1)).filter (jY x.1):=by
 unfold jL mW
 rw [← ao7,← ao6]
theorem amy (d:List aC) (x:aC):(jL d x).length≤d.length+1:=by
 rw [ET,List.length_append,List.length_take,List.length_cons]
 have:=List.length_filter_le (jY x.1) (d.drop (mW d x.1))
 rw [List.length_drop] at this
 have:=ajY (belowD x.1) d
 unfold mW at*
 omega
theorem afw {d:List aC} {x y:aC} (h:y∈jL d x):y=x∨y∈d:=by
 rw [ET] at h
 rcases List.mem_append.1 h with h|h
 · exact .inr (List.mem_of_mem_take h)
 · rcases List.mem_cons.1 h with h|h
   · exact .inl h
   · exact .inr (List.mem_of_mem_drop (List.mem_filter.1 h).1)
theorem amz {d:List aC} {x y:aC} (h:y∈d):y.1=x.1∨y∈jL d x:=by
 by_cases e:y.1=x.1
 · exact .inl e
 · right
   rw [ET]
   rw [← List.take_append_drop (mW d x.1) d] at h
   rcases List.mem_append.1 h with h|h
   · exact List.mem_append.2 (.inl h)
   · refine List.mem_append.2 (.inr (List.mem_cons_of_mem _ (List.mem_filter.2 ⟨h,?_⟩)))
     unfold jY
     rw [beq_eq_false_iff_ne.2 e];rfl
theorem ajZ (d:List aC) (x:aC):x∈jL d x:=by
 rw [ET];exact List.mem_append.2 (.inr List.mem_cons_self)
theorem aeZ {d:List aC} {x:aC} (hd:aA d) (hl:d.length≤999) (hx:x.2.1.length≤1000):aA (jL d x):=by
 refine ⟨by have:=amy d x;omega,fun y hy=>?_⟩
 rcases afw hy with rfl|h
 · exact hx
 · exact hd.2 y h
theorem apE {d:List aC} {x:aC} (hd:bF d=true) {n:Nat} (hn:n<d.length) (he:nameOf d n=x.1):d.set n x=jL d x:=by
 have hk:mW d x.1=n:=by
  refine Y7 _ ([],[],()) d n (by omega) (fun i hi=>?_) fun _=>?_
  · have:=SN hd n i hi hn
    rw [he] at this;exact this
  · show Op.bytesLess (nameOf d n) x.1=false
    rw [he];exact Gz _
 rw [ET,hk,List.set_eq_take_append_cons_drop,if_pos hn]
 congr 1
 have e:d.drop n=bG d n::d.drop (n+1):=by
  unfold bG
  rw [List.drop_eq_getElem_cons hn,List.getD_eq_getElem?_getD,List.getElem?_eq_getElem hn];rfl
 rw [e,List.filter_cons_of_neg (by unfold jY;rw [show (bG d n).1=x.1 from he];simp)]
 rw [List.filter_eq_self.2]
 intro y hy
 obtain ⟨i,hi,rfl⟩:=List.getElem_of_mem hy
 rw [List.length_drop] at hi
 rw [List.getElem_drop]
 have h1:=SN hd (n+1+i) n (by omega) (by omega)
 have e2:nameOf d (n+1+i)=(d[n+1+i]'(by omega)).1:=by
  unfold nameOf bG
  rw [List.getD_eq_getElem?_getD,List.getElem?_eq_getElem (by omega)];rfl
 rw [he,e2] at h1
 unfold jY
 rw [beq_eq_false_iff_ne.2 (Iq h1).symm];rfl
theorem alf {d:List aC} {x:aC} (hd:bF d=true) (hno:∀ y∈d,y.1≠x.1) {k:Nat} (hk:k≤d.length) (h1:∀ i,i<k→Op.bytesLess x.1 (nameOf d i)=false) (h2:k<d.length→Op.bytesLess x.1 (nameOf d k)=true):d.take k++([x]++d.drop k)=jL d x:=by
 have nm:∀ i,i<d.length→nameOf d i≠x.1:=fun i hi=>hno _ (by unfold bG;rw [List.getD_eq_getElem?_getD,List.getElem?_eq_getElem hi];exact List.getElem_mem hi)
 have hl:mW d x.1=k:=by
  refine Y7 _ ([],[],()) d k hk (fun i hi=>?_) fun h=>?_
  · exact Nc _ _ (h1 i hi) (nm i (by omega)).symm
  · exact afu (h2 h)
 rw [ET,hl,List.filter_eq_self.2]
 · rfl
 · intro y hy
   unfold jY
   rw [beq_eq_false_iff_ne.2 (hno y (List.mem_of_mem_drop hy))];rfl
def tX (d:List aC) (x:aC) (n:Nat):List aC:=
 if n≤mW d x.1 then d.take n else d.take (mW d x.1)++x::((d.take n).drop (mW d x.1)).filter (jY x.1)
theorem ae0 {d:List aC} {x:aC} {n:Nat} (hn:n<d.length) (h:n<mW d x.1):tX d x (n+1)=tX d x n++[bG d n]∧belowD x.1 (bG d n)=true:=by
 unfold tX
 rw [if_pos (by omega),if_pos (by omega)]
 exact ⟨take_succ' d n ([],[],()) hn,(ade (belowD x.1) ([],[],()) d).1 n h⟩
theorem ahz {d:List aC} {x:aC} {n:Nat} (hn:n<d.length) (h:n=mW d x.1):tX d x (n+1)=tX d x n++x::(bif jY x.1 (bG d n) then [bG d n] else [])∧belowD x.1 (bG d n)=false:=by
 unfold tX
 rw [if_neg (by omega),if_pos (by omega),← h]
 refine ⟨?_,?_⟩
 · congr 2
   rw [take_succ' d n ([],[],()) hn,List.drop_append_of_le_length (by rw [List.length_take];omega),List.drop_of_length_le (by rw [List.length_take];omega),List.nil_append]
   unfold bG
   cases hc:jY x.1 (d.getD n ([],[],())) with
   |true=>rw [List.filter_cons_of_pos hc];rfl
   |false=>rw [List.filter_cons_of_neg (by rw [hc];exact Bool.false_ne_true)];rfl
 · have:=(ade (belowD x.1) ([],[],()) d).2
   unfold mW at h
   rw [← h] at this
   exact this hn
theorem aky {d:List aC} {x:aC} {n:Nat} (hn:n<d.length) (h:mW d x.1<n):tX d x (n+1)=tX d x n++(bif jY x.1 (bG d n) then [bG d n] else []):=by
 unfold tX
 rw [if_neg (by omega),if_neg (by omega),take_succ' d n ([],[],()) hn,List.drop_append_of_le_length (by rw [List.length_take];omega),List.filter_append,← List.cons_append,← List.append_assoc]
 congr 1
theorem amm {d:List aC} {x:aC}:jL d x=if d.length≤mW d x.1 then tX d x d.length++[x] else tX d x d.length:=by
 have hle:=ajY (belowD x.1) d
 rw [ET]
 unfold tX
 by_cases h:d.length≤mW d x.1
 · have e:mW d x.1=d.length:=by unfold mW at h ⊢;omega
   rw [if_pos h,if_pos h,e,List.take_length,List.drop_length];rfl
 · rw [if_neg h,if_neg h,List.take_length]
theorem aml (d:List aC) (x:aC) (n:Nat):(tX d x n).length≤n+1:=by
 unfold tX
 by_cases h:n≤mW d x.1
 · rw [if_pos h,List.length_take];omega
 · rw [if_neg h,List.length_append,List.length_take,List.length_cons]
   have:=List.length_filter_le (jY x.1) ((d.take n).drop (mW d x.1))
   rw [List.length_drop,List.length_take] at this
   omega
theorem aow {fs:List aN} {d:List aC} {x:aC} {nm:Bytes→Bool} {old R E:List dL} (hd:bF d=true) (hd':bF (jL d x)=true)
 (hnm:∀ s,nm s=true↔Reach (jL d x) (fun t=>t=x.1) s)
 (h1:fM fs d [] (fun _=>true) old) (h2:fM fs (jL d x) old nm R) (h3:fM fs (jL d x) [] (fun _=>true) E):R=E:=by
 have at_:∀ (l:List aC) i,i<l.length→bG l i∈l:=fun l i hi=>by
  unfold bG;rw [List.getD_eq_getElem?_getD,List.getElem?_eq_getElem hi];exact List.getElem_mem hi
 have of_:∀ (l:List aC) y,y∈l→∃ i,i<l.length∧bG l i=y:=fun l y hy=>by
  obtain ⟨i,hi,e⟩:=List.getElem_of_mem hy
  exact ⟨i,hi,by unfold bG;rw [List.getD_eq_getElem?_getD,List.getElem?_eq_getElem hi];exact e⟩
 refine incr hd hd' h1 h2 h3 (fun i hi hno=>⟨?_,fun _=>rfl,fun b s hs=>?_⟩) fun j hj _=>?_
 · rcases afw (at_ _ i hi) with e|h
   · have:nm (nameOf (jL d x) i)=true:=(hnm _).2 (.base (by unfold nameOf;rw [e]))
     rw [this] at hno;cases hno
   · obtain ⟨j,hj,e⟩:=of_ d _ h
     exact ⟨j,hj,by unfold nameOf;rw [e],by unfold dQ;rw [e]⟩
 · rw [Bool.eq_false_iff]
   intro h
   have:nm (nameOf (jL d x) i)=true:=(hnm _).2 (.step ((hnm s).1 h) hi (Y6 hs))
   rw [this] at hno;cases hno
 · rcases amz (x:=x) (at_ d j hj) with e|h
   · obtain ⟨i,hi,e'⟩:=of_ _ _ (ajZ d x)
     exact ⟨i,hi,by unfold nameOf;rw [e',e]⟩
   · obtain ⟨i,hi,e'⟩:=of_ _ _ h
     exact ⟨i,hi,by unfold nameOf;rw [e']⟩
theorem aox {fs:List aN} {d:List aC} {r out:List dL} (h:fM fs d r (dA (fE d)) out):fM fs d [] (fun _=>true) out:=by
 have e:∀ i,i<d.length→dA (fE d) (nameOf d i)=true:=fun i hi=>by
  rw [gB]
  unfold fE
  exact List.mem_map.2 ⟨bG d i,by unfold bG;rw [List.getD_eq_getElem?_getD,List.getElem?_eq_getElem hi];exact List.getElem_mem hi,rfl⟩
 exact Kv h (fun i hi=>e i hi) fun i hi h'=>by rw [e i hi] at h';cases h'
def became (c:gm) (s:bT) (d:List aC) (ok0:Bool) (c':gm) (df:List qF) (ok:Bool):Prop:=
 ok=ok0∧(ok=true→aT c'=s∧bJ c'=d∧dF c'=true∧df=Fb (uV c) (uV c'))∧(ok=false→c'=c∧df=[])
def aou (c:gm):Prop:=∀ f∈c.2.1,f.2.2.2.2.1.length≤400
theorem ajM {c:gm} (h:aou c):Zb c:=fun f hf=>Nat.le_trans (h f hf) (by decide)
def jM (c:gm):Prop:=dO c∧aou c∧(bJ c).length≤10
def named (f:aN) (w:Bytes):aN:=(f.1,f.2.1,f.2.2.1,f.2.2.2.1,kR f.2.2.2.2.1 [110] 2 0 w,())
def EO (c:gm) (u id:Int):Bool:=(aO (aT c) id).2&&kY (aO (aT c) id).1 u
end Sp
namespace Sp
open Go
theorem SS {l:List aC} {i:Nat} (hi:i<l.length):bG l i∈l:=by
 unfold bG;rw [List.getD_eq_getElem?_getD,List.getElem?_eq_getElem hi];exact List.getElem_mem hi
theorem Zw {l:List aC} {y:aC} (hy:y∈l):∃ i,i<l.length∧bG l i=y:=by
 obtain ⟨i,hi,e⟩:=List.getElem_of_mem hy
 exact ⟨i,hi,by unfold bG;rw [List.getD_eq_getElem?_getD,List.getElem?_eq_getElem hi];exact e⟩
theorem U7 {d:List aC}:bF d=true↔(∀ x∈d,iq x.1=true∧bQ x.2.1=true)∧(d.Pairwise fun x y=>Op.bytesLess x.1 y.1=true)∧d.length≤5:=by
 have one:∀ i,jZ d i=true↔(iq (bG d i).1=true∧bQ (bG d i).2.1=true)∧(0<i→Op.bytesLess (bG d (i-1)).1 (bG d i).1=true):=fun i=>by
  unfold jZ
  rw [Bool.and_eq_true,Bool.and_eq_true]
  refine and_congr_right fun _=>?_
  by_cases h0:0<i
  · rw [decide_eq_true h0];simp [h0]
  · rw [decide_eq_false h0];simp [h0]
 unfold bF
 rw [Bool.and_eq_true,show (jh d.length (jZ d)=true)↔∀ i,i<d.length→jZ d i=true from by
  unfold jh
  rw [List.all_eq_true]
  exact ⟨fun h i hi=>h i (List.mem_range.2 hi),fun h i hi=>h i (List.mem_range.1 hi)⟩,decide_eq_true_eq]
 constructor
 · rintro ⟨h,hl⟩
   refine ⟨fun x hx=>?_,?_,by omega⟩
   · obtain ⟨i,hi,rfl⟩:=Zw hx
     exact ((one i).1 (h i hi)).1
   · exact adb (R:=fun x y:aC=>Op.bytesLess x.1 y.1=true) (fun a b c h1 h2=>FI _ _ _ h1 h2) ([],[],()) d fun i hi=>((one (i+1)).1 (h (i+1) hi)).2 (by omega)
 · rintro ⟨h1,h2,hl⟩
   refine ⟨fun i hi=>(one i).2 ⟨h1 _ (SS hi),fun h0=>?_⟩,by omega⟩
   have e:∀ k (hk:k<d.length),bG d k=d[k]:=fun k hk=>by unfold bG;rw [List.getD_eq_getElem?_getD,List.getElem?_eq_getElem hk];rfl
   rw [e i hi,e (i-1) (by omega)]
   exact List.pairwise_iff_getElem.1 h2 (i-1) i (by omega) hi (by omega)
def lH (d:List aC) (name:Bytes):List aC:=d.filter (jY name)
def removeDir (d:List aC) (name:Bytes):List aC×Bool:=bif bF d&&decide (0≤aJ d name) then (lH d name,true) else (d,false)
theorem J5 {d:List aC} {name:Bytes} {y:aC}:y∈lH d name↔y∈d∧y.1≠name:=by
 unfold lH jY
 rw [List.mem_filter]
 simp
theorem abp {d:List aC} (h:bF d=true) (name:Bytes):bF (lH d name)=true:=by
 obtain ⟨h1,h2,h3⟩:=U7.1 h
 exact U7.2 ⟨fun x hx=>h1 x (J5.1 hx).1,List.Pairwise.filter _ h2,Nat.le_trans (List.length_filter_le _ _) h3⟩
theorem abq {d:List aC} (h:bF d=true) {y:aC} (hy:y∈d):0≤aJ d y.1∧(aJ d y.1).toNat<d.length∧bG d (aJ d y.1).toNat=y:=by
 obtain ⟨i,hi,rfl⟩:=Zw hy
 have:=Nu h hi
 unfold nameOf at this
 rw [this,Int.toNat_natCast]
 exact ⟨by omega,hi,rfl⟩
theorem Eu {d:List aC} (h:ai d=true) (name:Bytes):ai (lH d name)=true:=by
 obtain ⟨hd,L,hL⟩:=jX.1 h
 have hd':=abp hd name
 refine jX.2 ⟨hd',fun i=>L (aJ d (nameOf (lH d name) i)).toNat,?_⟩
 rintro ⟨i,j,m⟩ he
 obtain ⟨hi,s,h2,h3,h4⟩:=zo.1 he
 have mi:=(J5.1 (SS hi)).1
 obtain ⟨_,g2,g3⟩:=abq hd mi
 have hj:=Gy h3
 have ej:nameOf (lH d name) j=s:=by
  rcases pK (lH d name) s with ⟨e,_⟩|⟨n,hn,e,en,_⟩
  · omega
  · have:j=n:=by omega
    subst this;exact en
 have hj':j<(lH d name).length:=by omega
 have mj:=(J5.1 (SS hj')).1
 obtain ⟨k1,_,_⟩:=abq hd mj
 have ej2:(bG (lH d name) j).1=s:=ej
 rw [ej2] at k1
 have:=hL ((aJ d (nameOf (lH d name) i)).toNat,(aJ d s).toNat,m) (zo.2 ⟨g2,s,by unfold nameOf;rw [g3];exact h2,k1,rfl⟩)
 show L (aJ d (nameOf (lH d name) j)).toNat+m≤_
 rw [ej];exact this
theorem anC {fs:List aN} {d:List aC} {name:Bytes} {nm:Bytes→Bool} {old R E:List dL} (hd:bF d=true)
 (hnm:∀ s,nm s=true↔Reach d (fun t=>t=name) s)
 (h1:fM fs d [] (fun _=>true) old) (h2:fM fs (lH d name) old nm R) (h3:fM fs (lH d name) [] (fun _=>true) E):R=E:=by
 have hd':=abp hd name
 refine incr hd hd' h1 h2 h3 (fun i hi hno=>?_) fun j hj hno=>?_
 · obtain ⟨j,hj,e⟩:=Zw (J5.1 (SS hi)).1
   refine ⟨⟨j,hj,by unfold nameOf;rw [e],by unfold dQ;rw [e]⟩,fun _=>rfl,fun b s hs=>?_⟩
   rw [Bool.eq_false_iff]
   intro h
   have hs':s∈nS (dQ d j):=by unfold dQ;rw [e];exact Y6 hs
   have:nm (nameOf d j)=true:=(hnm _).2 (.step ((hnm s).1 h) hj hs')
   rw [show nameOf d j=nameOf (lH d name) i by unfold nameOf;rw [e]] at this
   rw [this] at hno;cases hno
 · have hne:(bG d j).1≠name:=fun e=>by
    have:nm (nameOf d j)=true:=(hnm _).2 (.base e)
    rw [this] at hno;cases hno
   obtain ⟨i,hi,e⟩:=Zw (J5.2 ⟨SS hj,hne⟩)
   exact ⟨i,hi,by unfold nameOf;rw [e]⟩
theorem drop_at {d:List aC} (hd:bF d=true) {n:Nat} (hn:n<d.length):d.take n++d.drop (n+1)=lH d (nameOf d n):=by
 have hp:=(U7.1 hd).2.1
 have e:d=d.take n++bG d n::d.drop (n+1):=by
  have:bG d n=d[n]:=by unfold bG;rw [List.getD_eq_getElem?_getD,List.getElem?_eq_getElem hn];rfl
  rw [this,← List.drop_eq_getElem_cons hn,List.take_append_drop]
 have hp':=hp
 rw [e,List.pairwise_append,List.pairwise_cons] at hp'
 have hnm:(bG d n).1=nameOf d n:=rfl
 generalize nameOf d n=nm at hnm
 unfold lH
 conv=>rhs;rw [e]
 rw [List.filter_append,List.filter_cons_of_neg (by unfold jY;rw [hnm];simp),List.filter_eq_self.2,List.filter_eq_self.2]
 · intro y hy
   unfold jY
   rw [← hnm,beq_eq_false_iff_ne.2 (Iq (hp'.2.1.1 y hy)).symm];rfl
 · intro y hy
   unfold jY
   rw [← hnm,beq_eq_false_iff_ne.2 (Iq (hp'.2.2 y hy _ List.mem_cons_self))];rfl
def Gw (u:Int):Bool:=decide (0≤u)&&decide (u≤2)
def kN (x:jJ):aN:=(x.2.1,x.2.2.1,x.2.2.2.1,x.2.2.2.2.1,x.2.2.2.2.2.1,())
def QJ (x:jJ):Int:=x.2.2.2.2.2.2.1
def Jk (x:jJ):aC:=(x.2.2.2.2.2.2.2.1,x.2.2.2.2.2.2.2.2.1,())
def yw (c:gm) (x:jJ):bT:=
 bif x.1==1 then (aH (aT c) (kN x)).1 else bif x.1==2 then (aV (aT c) (kN x)).1 else bif x.1==3 then (aX (aT c) (QJ x)).1 else aT c
def EN (c:gm) (x:jJ):List aC:=bif x.1==4 then (bY (bJ c) (Jk x)).1 else bif x.1==5 then (removeDir (bJ c) (Jk x).1).1 else bJ c
noncomputable def xQ (c:gm) (u:Int) (x:jJ):Bool:=
 bif x.1==1 then decide ((kN x).2.1=u)&&(aH (aT c) (kN x)).2.2 else
 bif x.1==2 then (EO c u (kN x).1&&decide ((kN x).2.1=u))&&(aV (aT c) (kN x)).2 else
 bif x.1==3 then EO c u (QJ x)&&(aX (aT c) (QJ x)).2 else
 bif x.1==4 then (bY (bJ c) (Jk x)).2&&ai (bY (bJ c) (Jk x)).1 else
 bif x.1==5 then (removeDir (bJ c) (Jk x).1).2 else false
noncomputable def Hg (c:gm) (u:Int) (x:jJ):Bool:=(Gw u&&dF c)&&xQ c u x
def applied (c:gm) (u:Int) (x:jJ) (c':gm) (df:List qF) (ok:Bool):Prop:=became c (yw c x) (EN c x) (Hg c u x) c' df ok
theorem Y8 {c:gm} {u id:Int} (h:EO c u id=true):(aO (aT c) id).2=true∧(aO (aT c) id).1.2.1=u:=by
 unfold EO kY at h
 simp only [Bool.and_eq_true,decide_eq_true_eq] at h
 exact ⟨h.1,h.2.2⟩
theorem alk {s:bT} {n:Nat} {id:Int} (hn:n<s.2.1.length) (h:place s.2.1 id=n):aO s id=(fileAt s.2.1 n,true):=by
 unfold aO
 rw [h,decide_eq_false (by omega),Int.toNat_natCast];rfl
theorem akz {c:gm} {u:Int} {x:jJ} (hs:ax (aT c)=true) (h:xQ c u x=true) {f:aN} (hf:f∈c.2.1) (hu:f.2.1≠u):aO (yw c x) f.1=(f,true):=by
 have hf':f∈(aT c).2.1:=hf
 unfold xQ at h
 unfold yw
 cases h1:x.1==1 with
 |true=>
  rw [h1] at h
  have h:(decide ((kN x).2.1=u)&&(aH (aT c) (kN x)).2.2)=true:=h
  rw [Bool.and_eq_true] at h
  refine Jq (Bh _ hs) ?_
  rcases jD (aT c) (kN x) with ⟨e,_⟩|⟨_,_,_,e⟩
  · rw [e] at h;cases h.2
  · show f∈(aH (aT c) (kN x)).1.2.1
    rw [e];exact List.mem_append.2 (.inl hf')
 |false=>
  rw [h1] at h
  cases h2:x.1==2 with
  |true=>
   rw [h2] at h
   have h:((EO c u (kN x).1&&decide ((kN x).2.1=u))&&(aV (aT c) (kN x)).2)=true:=h
   rw [Bool.and_eq_true,Bool.and_eq_true] at h
   refine Jq (Et _ hs) ?_
   obtain ⟨w1,w2⟩:=Y8 h.1.1
   rcases jl (aT c) (kN x) with ⟨e,_⟩|⟨n,hn,hp,_,_,e⟩
   · rw [e] at h;cases h.2
   · show f∈(aV (aT c) (kN x)).1.2.1
     rw [e]
     rw [alk hn hp] at w2
     obtain ⟨i,hi,ei⟩:=Jp hf'
     have hne:n≠i:=fun e=>by subst e;rw [ei] at w2;exact hu w2
     have:=U6 (fs:=(aT c).2.1) (i:=i) (f:=kN x) hn
     rw [if_neg hne,ei] at this
     rw [← this]
     exact FK (by rw [List.length_set];exact hi)
  |false=>
   rw [h2] at h
   cases h3:x.1==3 with
   |true=>
    rw [h3] at h
    have h:(EO c u (QJ x)&&(aX (aT c) (QJ x)).2)=true:=h
    rw [Bool.and_eq_true] at h
    refine Jq (Bj _ hs) ?_
    obtain ⟨w1,w2⟩:=Y8 h.1
    rcases lU (aT c) (QJ x) with ⟨e,_⟩|⟨n,hn,hp,_,e⟩
    · rw [e] at h;cases h.2
    · show f∈(aX (aT c) (QJ x)).1.2.1
      rw [e]
      rw [alk hn hp] at w2
      obtain ⟨i,hi,ei⟩:=Jp hf'
      have hne:i≠n:=fun e=>by subst e;rw [ei] at w2;exact hu w2
      show f∈(aT c).2.1.eraseIdx n
      rcases Nat.lt_or_ge i n with h'|h'
      · have:=Jo (fs:=(aT c).2.1) (n:=n) (i:=i)
        rw [if_pos h',ei] at this
        rw [← this]
        exact FK (by rw [List.length_eraseIdx];split<;>omega)
      · have:=Jo (fs:=(aT c).2.1) (n:=n) (i:=i-1)
        rw [if_neg (by omega),show i-1+1=i by omega,ei] at this
        rw [← this]
        exact FK (by rw [List.length_eraseIdx];split<;>omega)
   |false=>exact Jq hs hf'
def yY (x:jJ):Prop:=(kN x).2.2.2.2.1.length≤400∧(Jk x).2.1.length≤1000
end Sp
namespace Go.Fw
open Go
theorem JU {α:Type} {l:List α} {lo:Nat} {news:List α} (h:lo+news.length≤l.length):(bV l lo news).length=l.length:=by
 unfold bV
 simp only [List.length_append,List.length_take,List.length_drop]
 omega
theorem PY {α:Type} {l:List α} {lo k:Nat} {news:List α} (hk:k≤lo) (h:lo≤l.length):(bV l lo news).take k=l.take k:=by
 unfold bV
 rw [List.append_assoc,List.take_append_of_le_length (by rw [List.length_take];omega),List.take_take,Nat.min_eq_left hk]
theorem eqL {α β:Type} (e:α→α→Bool) (he:∀ x y,e x y=false↔x=y) (d:α) (a b:List α) [Decidable (a=b)] (t:β) (hlen:a.length≤maxLen) {K:Bool×Unit→Prop} (hK:K (decide (a=b),())):
 bif ((a.length:Int)) !=(b.length:Int) then K (false,()) else
 ∃ (I:(Int×Unit)×Unit→Prop),∃ (μ:(Int×Unit)×Unit→Nat),I (((0:Int),()),())∧∀ (y:(Int×Unit)×Unit),I y→
   bif decide (y.fst.fst<(a.length:Int)) then
    ((0:Int)≤y.fst.fst∧y.fst.fst<(a.length:Int))∧((0:Int)≤y.fst.fst∧y.fst.fst<(b.length:Int))∧
      (bif e (a.getD (Int.toNat y.fst.fst) d) (b.getD (Int.toNat y.fst.fst) d) then K (false,())
      else t=t∧I ((IntKind.i64.wrap (y.fst.fst+(1:Int)),()),())∧μ ((IntKind.i64.wrap (y.fst.fst+(1:Int)),()),())<μ y)
   else K (true,()):=by
 rw [maxLen_eq] at hlen
 refine af (fun h=>?_) fun h=>?_
 · have h:(a.length:Int)≠b.length:=by simpa using h
   rw [decide_eq_false fun e=>h (by rw [e])] at hK
   exact hK
 · have h:(a.length:Int)=b.length:=by simpa using h
   exact RP e he d a b t hlen (by omega) (fun e=>by rw [decide_eq_false e] at hK;exact hK) fun e=>by rw [decide_eq_true e] at hK;exact hK
theorem aom {α β:Type} (e:α→α→Bool) (he:∀ x y,e x y=false↔x=y) (d:α) (a b:List α) [Decidable (a=b)] (t:β) (hlen:a.length≤maxLen) {K:Bool×Unit→Prop} (hK:K (decide (a=b),())):
 bif ((a.length:Int)) !=(b.length:Int) then K (false,()) else
 ∃ (I:(Int×Unit)×Unit→Prop),∃ (μ:(Int×Unit)×Unit→Nat),I (((0:Int),()),())∧∀ (y:(Int×Unit)×Unit),I y→
   bif decide (y.fst.fst<(a.length:Int)) then
    ((0:Int)≤y.fst.fst∧y.fst.fst<(a.length:Int))∧((0:Int)≤y.fst.fst∧y.fst.fst<(b.length:Int))∧True∧
      (bif e (a.getD (Int.toNat y.fst.fst) d) (b.getD (Int.toNat y.fst.fst) d) then K (false,())
      else t=t∧I ((IntKind.i64.wrap (y.fst.fst+(1:Int)),()),())∧μ ((IntKind.i64.wrap (y.fst.fst+(1:Int)),()),())<μ y)
   else K (true,()):=by
 rw [maxLen_eq] at hlen
 refine af (fun h=>?_) fun h=>?_
 · have h:(a.length:Int)≠b.length:=by simpa using h
   rw [decide_eq_false fun e=>h (by rw [e])] at hK
   exact hK
 · have h:(a.length:Int)=b.length:=by simpa using h
   exact ab7 e he d a b t hlen (by omega) (fun e=>by rw [decide_eq_false e] at hK;exact hK) fun e=>by rw [decide_eq_true e] at hK;exact hK
theorem Yk {α β:Type} (p:α→Bool) (d:α) (a:List α) (t:β) (hlen:a.length≤maxLen) {K:Int×Unit→Prop} (hK:K (Sp.findAt p a,())):
 ∃ (I:(Int×Unit)×Unit→Prop),∃ (μ:(Int×Unit)×Unit→Nat),I (((0:Int),()),())∧∀ (y:(Int×Unit)×Unit),I y→
   bif decide (y.fst.fst<(a.length:Int)) then
    ((0:Int)≤y.fst.fst∧y.fst.fst<(a.length:Int))∧True∧
      (bif p (a.getD (Int.toNat y.fst.fst) d) then K (y.fst.fst,())
      else t=t∧I ((IntKind.i64.wrap (y.fst.fst+(1:Int)),()),())∧μ ((IntKind.i64.wrap (y.fst.fst+(1:Int)),()),())<μ y)
   else K ((-1:Int),()):=by
 rw [maxLen_eq] at hlen
 refine iM a.length hlen (fun n=>∀ i,i<n→p (a.getD i d)=false) (fun i hi=>by omega) (fun I μ n hn hJ next=>?_) fun I μ hJ=>?_
 · dsimp only
   refine dH (by omega) ⟨⟨by omega,by omega⟩,trivial,af (fun h=>?_) fun h=>⟨rfl,next fun i hi=>?_⟩⟩
   · rw [Sp.ahD hn hJ h] at hK;exact hK
   · rcases Nat.lt_or_ge i n with h'|h'
     · exact hJ i h'
     · have:i=n:=by omega
       rw [this];exact h
 · dsimp only
   refine dI (by omega) ?_
   rw [Sp.abo hJ] at hK;exact hK
theorem anp {α β:Type} (p:α→Bool) (d:α) (a:List α) (t:β) (hlen:a.length≤maxLen) {K:Int×Unit→Prop} (hK:K (Sp.findAt p a,())):
 ∃ (I:(Int×Unit)×Unit→Prop),∃ (μ:(Int×Unit)×Unit→Nat),I (((0:Int),()),())∧∀ (y:(Int×Unit)×Unit),I y→
   bif decide (y.fst.fst<(a.length:Int)) then
    ((0:Int)≤y.fst.fst∧y.fst.fst<(a.length:Int))∧
      (bif p (a.getD (Int.toNat y.fst.fst) d) then K (y.fst.fst,())
      else t=t∧I ((IntKind.i64.wrap (y.fst.fst+(1:Int)),()),())∧μ ((IntKind.i64.wrap (y.fst.fst+(1:Int)),()),())<μ y)
   else K ((-1:Int),()):=by
 obtain ⟨I,μ,h0,h1⟩:=Yk p d a t hlen hK
 refine ⟨I,μ,h0,fun y hy=>?_⟩
 have:=h1 y hy
 revert this
 cases decide (y.fst.fst<(a.length:Int)) with
 |true=>exact fun h=>⟨h.1,h.2.2⟩
 |false=>exact id
theorem apx {α β:Type} (p:α→Bool) (d:α) (s:List α) (t:β) (hlen:s.length≤4611686018427387903) {K:(List α×Unit)×Unit→Prop} (hK:K ((s.filter fun x=>!p x,()),())):
 bif Sp.findAt p s==(-1:Int) then K ((s,()),()) else
 ∃ (I:(Int×Int×Unit)×List α×Unit→Prop),∃ (μ:(Int×Int×Unit)×List α×Unit→Nat),
   I ((Sp.findAt p s,IntKind.i64.wrap (Sp.findAt p s+(1:Int)),()),s,())∧∀ (y:(Int×Int×Unit)×List α×Unit),I y→
     bif decide (y.fst.snd.fst<(↑(List.length y.snd.fst):Int)) then
      ((0:Int)≤y.fst.snd.fst∧y.fst.snd.fst<(↑(List.length y.snd.fst):Int))∧Int.toNat y.fst.snd.fst<List.length y.snd.fst∧True∧
        (bif !p (List.getD y.snd.fst (Int.toNat y.fst.snd.fst) d) then
          ((0:Int)≤y.fst.fst∧y.fst.fst<(↑(List.length y.snd.fst):Int))∧Int.toNat y.fst.fst<List.length y.snd.fst∧t=t∧
            I ((IntKind.i64.wrap (y.fst.fst+(1:Int)),IntKind.i64.wrap (y.fst.snd.fst+(1:Int)),()),List.set y.snd.fst (Int.toNat y.fst.fst) (List.getD y.snd.fst (Int.toNat y.fst.snd.fst) d),())∧
            μ ((IntKind.i64.wrap (y.fst.fst+(1:Int)),IntKind.i64.wrap (y.fst.snd.fst+(1:Int)),()),List.set y.snd.fst (Int.toNat y.fst.fst) (List.getD y.snd.fst (Int.toNat y.fst.snd.fst) d),())<μ y
        else t=t∧I ((y.fst.fst,IntKind.i64.wrap (y.fst.snd.fst+(1:Int)),()),y.snd.fst,())∧μ ((y.fst.fst,IntKind.i64.wrap (y.fst.snd.fst+(1:Int)),()),y.snd.fst,())<μ y)
     else
      (0:Nat)<List.length y.snd.fst∧((0:Int)≤y.fst.fst∧y.fst.fst≤(↑(List.length y.snd.fst):Int))∧
        (0:Nat)+Int.toNat y.fst.fst+(List.length y.snd.fst-Int.toNat y.fst.fst)≤List.length y.snd.fst∧
          ((0:Nat)<(bV y.snd.fst ((0:Nat)+Int.toNat y.fst.fst) (List.replicate (List.length y.snd.fst-Int.toNat y.fst.fst) d)).length∧
            List.length y.snd.fst≤(bV y.snd.fst ((0:Nat)+Int.toNat y.fst.fst) (List.replicate (List.length y.snd.fst-Int.toNat y.fst.fst) d)).length)∧
            ((0:Int)≤y.fst.fst∧y.fst.fst≤(↑(List.take (List.length y.snd.fst) (bV y.snd.fst ((0:Nat)+Int.toNat y.fst.fst) (List.replicate (List.length y.snd.fst-Int.toNat y.fst.fst) d))).length:Int))∧
              K ((List.take (Int.toNat y.fst.fst) (List.take (List.length y.snd.fst) (bV y.snd.fst ((0:Nat)+Int.toNat y.fst.fst) (List.replicate (List.length y.snd.fst-Int.toNat y.fst.fst) d))),()),()):=by
 rcases Sp.OQ p d s with ⟨e,hno⟩|⟨n,hn,e,he,hne⟩
 · rw [e]
   have:s.filter (fun x=>!p x)=s:=List.filter_eq_self.2 fun x hx=>by
    obtain ⟨i,hi,rfl⟩:=List.getElem_of_mem hx
    have:=hno i hi
    rw [List.getD_eq_getElem?_getD,List.getElem?_eq_getElem hi] at this
    exact congrArg Bool.not this
   rw [this] at hK
   exact hK
 · rw [e]
   have e1:(((n:Nat):Int)==-1)=false:=by rw [beq_eq_false_iff_ne];omega
   rw [e1]
   have w1:∀ k:Nat,k≤4611686018427387903→IntKind.i64.wrap ((k:Int)+1)=((k+1:Nat):Int):=fun k hk=>fF _ (by omega)
   rw [w1 n (by omega)]
   refine ⟨fun y=>∃ (i j:Nat) (l:List α),y=(((i:Int),(j:Int),()),l,())∧i<j∧j≤s.length∧l.length=s.length∧l.take i=(s.take j).filter (fun x=>!p x)∧∀ t,j≤t→l.getD t d=s.getD t d,
    fun y=>((s.length:Int)-y.1.2.1).toNat,⟨n,n+1,s,rfl,by omega,by omega,rfl,?_,fun _ _=>rfl⟩,?_⟩
   · rw [Sp.take_succ' s n d hn,List.filter_append,List.filter_cons]
     have h1:(!p (s.getD n d))=false:=congrArg Bool.not he
     rw [h1]
     have h2:(s.take n).filter (fun x=>!p x)=s.take n:=List.filter_eq_self.2 fun x hx=>by
      obtain ⟨i,hi,rfl⟩:=List.getElem_of_mem hx
      have hi':i<n:=by rw [List.length_take] at hi;omega
      have:=hne i hi'
      rw [List.getD_eq_getElem?_getD,List.getElem?_eq_getElem (by omega)] at this
      rw [List.getElem_take]
      exact congrArg Bool.not this
     rw [h2];simp
   · rintro y ⟨i,j,l,rfl,hij,hj,hl,ht,hs⟩
     dsimp only
     refine af (fun h=>?_) fun h=>?_
     · have h:j<s.length:=by have h:=of_decide_eq_true h;omega
       have hsj:=hs j (Nat.le_refl _)
       rw [Int.toNat_natCast,Int.toNat_natCast,hsj,w1 i (by omega),w1 j (by omega)]
       refine ⟨⟨by omega,by omega⟩,by omega,trivial,af (fun h2=>⟨⟨by omega,by omega⟩,by omega,rfl,⟨i+1,j+1,_,rfl,by omega,by omega,by rw [List.length_set];exact hl,?_,fun t ht=>?_⟩,by omega⟩) fun h2=>⟨rfl,⟨i,j+1,l,rfl,by omega,by omega,hl,?_,fun t ht=>hs t (by omega)⟩,by omega⟩⟩
       · rw [Sp.take_succ' _ i d (by rw [List.length_set];omega),Sp.take_succ' s j d h,List.filter_append,List.filter_cons,List.take_set_of_le (Nat.le_refl _),ht]
         have h3:(!p (s.getD j d))=true:=h2
         rw [h3,List.getD_eq_getElem?_getD,List.getElem?_set,if_pos rfl,if_pos (by omega)]
         rfl
       · rw [List.getD_eq_getElem?_getD,List.getElem?_set,if_neg (by omega),← List.getD_eq_getElem?_getD]
         exact hs t (by omega)
       · rw [Sp.take_succ' s j d h,List.filter_append,List.filter_cons,ht]
         have h3:(!p (s.getD j d))=false:=h2
         rw [h3];simp
     · have h:j=s.length:=by have h:=of_decide_eq_false h;omega
       rw [Int.toNat_natCast,Nat.zero_add]
       have l1:(bV l i (List.replicate (l.length-i) d)).length=l.length:=JU (by rw [List.length_replicate];omega)
       refine ⟨by omega,⟨by omega,by omega⟩,by omega,⟨by rw [l1];omega,by rw [l1];omega⟩,⟨by omega,by rw [List.length_take,l1];omega⟩,?_⟩
       rw [List.take_take,Nat.min_eq_left (by omega),PY (Nat.le_refl _) (by omega),ht,h,List.take_length]
       exact hK
end Go.Fw
namespace Go.Fw
open Go
theorem aol {α β:Type} (p:α→Bool) (d:α) (a:List α) (t:β) (hlen:a.length≤maxLen) {K:Bool×Unit→Prop} (hK:K (a.any p,())):
 ∃ (I:(Int×Unit)×Unit→Prop),∃ (μ:(Int×Unit)×Unit→Nat),I (((0:Int),()),())∧∀ (y:(Int×Unit)×Unit),I y→
   bif decide (y.fst.fst<(a.length:Int)) then
    ((0:Int)≤y.fst.fst∧y.fst.fst<(a.length:Int))∧
      (bif p (a.getD (Int.toNat y.fst.fst) d) then K (true,())
      else t=t∧I ((IntKind.i64.wrap (y.fst.fst+(1:Int)),()),())∧μ ((IntKind.i64.wrap (y.fst.fst+(1:Int)),()),())<μ y)
   else K (false,()):=by
 rw [maxLen_eq] at hlen
 refine iM a.length hlen (fun n=>∀ i,i<n→p (a.getD i d)=false) (fun i hi=>by omega) (fun I μ n hn hJ next=>?_) fun I μ hJ=>?_
 · dsimp only
   refine dH (by omega) ⟨⟨by omega,by omega⟩,af (fun h=>?_) fun h=>⟨rfl,next fun i hi=>?_⟩⟩
   · have:a.any p=true:=List.any_eq_true.2 ⟨a.getD n d,by rw [List.getD_eq_getElem?_getD,List.getElem?_eq_getElem hn];exact List.getElem_mem hn,h⟩
     rw [this] at hK;exact hK
   · rcases Nat.lt_or_ge i n with h'|h'
     · exact hJ i h'
     · have:i=n:=by omega
       rw [this];exact h
 · dsimp only
   refine dI (by omega) ?_
   have:a.any p=false:=by
    rw [List.any_eq_false]
    intro x hx
    obtain ⟨i,hi,rfl⟩:=List.getElem_of_mem hx
    have:=hJ i hi
    rw [List.getD_eq_getElem?_getD,List.getElem?_eq_getElem hi] at this
    simpa using this
   rw [this] at hK;exact hK
theorem Ul {α:Type} (p:α→Bool) (s:List α):decide (Sp.findAt p s≥0)=s.any p:=by
 cases hs:s with
 |nil=>rfl
 |cons d r=>
  rw [← hs]
  rcases Sp.OQ p d s with ⟨e,h⟩|⟨n,hn,e,h1,h2⟩
  · rw [e,decide_eq_false (by omega)]
    symm
    rw [List.any_eq_false]
    intro x hx
    obtain ⟨i,hi,rfl⟩:=List.getElem_of_mem hx
    have:=h i hi
    rw [List.getD_eq_getElem?_getD,List.getElem?_eq_getElem hi] at this
    simpa using this
  · rw [e,decide_eq_true (by omega)]
    symm
    exact List.any_eq_true.2 ⟨s.getD n d,by rw [List.getD_eq_getElem?_getD,List.getElem?_eq_getElem hn];exact List.getElem_mem hn,h1⟩
theorem jE {α:Type} (p:α→Bool) (d:α) (l:List α) {n:Nat} (h:n<l.length):(l.take (n+1)).filter p=(l.take n).filter p++(bif p (l.getD n d) then [l.getD n d] else []):=by
 rw [Sp.take_succ' l n d h,List.filter_append,List.filter_cons]
 cases p (l.getD n d)<;>rfl
theorem acs {α β δ:Type} (p:α→Bool) (g:α→β) (d:α) (a:List α) (t:δ) {A:Int→Prop} (hA:∀ n:Nat,n<a.length→A n) (hlen:a.length≤4000000) {K:List β×Unit→Prop} (hK:K ((a.filter p).map g,())):
 ∃ (I:(Unit×Int×Unit)×List β×Unit→Prop),∃ (μ:(Unit×Int×Unit)×List β×Unit→Nat),I (((),(0:Int),()),[],())∧∀ (y:(Unit×Int×Unit)×List β×Unit),I y→
   bif decide (y.1.2.1<(a.length:Int)) then
    ((0:Int)≤y.1.2.1∧y.1.2.1<(a.length:Int))∧A y.1.2.1∧
      (bif p (a.getD (Int.toNat y.1.2.1) d) then List.length y.2.1+1≤big∧t=t∧I (((),IntKind.i64.wrap (y.1.2.1+(1:Int)),()),y.2.1++[g (a.getD (Int.toNat y.1.2.1) d)],())∧μ (((),IntKind.i64.wrap (y.1.2.1+(1:Int)),()),y.2.1++[g (a.getD (Int.toNat y.1.2.1) d)],())<μ y
      else t=t∧I (((),IntKind.i64.wrap (y.1.2.1+(1:Int)),()),y.2)∧μ (((),IntKind.i64.wrap (y.1.2.1+(1:Int)),()),y.2)<μ y)
   else K y.2:=by
 refine dN (fun i (x:List β)=>(((),i,()),x,())) (fun y=>y.1.2.1) (fun _ _=>rfl) a.length (by omega) (fun n l=>l=((a.take n).filter p).map g) (by simp) (fun I μ n l hn hJ next=>?_) fun I μ l hJ=>?_
 · subst hJ
   have hl:(((a.take n).filter p).map g).length≤n:=by
    have:=List.length_filter_le p (a.take n)
    rw [List.length_map];rw [List.length_take] at this;omega
   have step:=jE p d a hn
   dsimp only
   refine dH (by omega) ⟨⟨by omega,by omega⟩,hA n hn,af (fun h=>⟨by rw [bW];omega,rfl,next _ ?_⟩) fun h=>⟨rfl,next _ ?_⟩⟩
   · have h:p (a.getD n d)=true:=h
     rw [step,h,List.map_append];rfl
   · have h:p (a.getD n d)=false:=h
     rw [step,h,List.map_append];simp
 · subst hJ
   dsimp only
   refine dI (by omega) ?_
   rw [List.take_length];exact hK
theorem ajB {α β δ:Type} (g:α→β) (d:α) (a:List α) (t:δ) (hlen:a.length≤4000000) {K:List β×Unit→Prop} (hK:K (a.map g,())):
 ∃ (I:(Unit×Int×Unit)×List β×Unit→Prop),∃ (μ:(Unit×Int×Unit)×List β×Unit→Nat),I (((),(0:Int),()),[],())∧∀ (y:(Unit×Int×Unit)×List β×Unit),I y→
   bif decide (y.1.2.1<(a.length:Int)) then
    ((0:Int)≤y.1.2.1∧y.1.2.1<(a.length:Int))∧
      List.length y.2.1+1≤big∧t=t∧I (((),IntKind.i64.wrap (y.1.2.1+(1:Int)),()),y.2.1++[g (a.getD (Int.toNat y.1.2.1) d)],())∧μ (((),IntKind.i64.wrap (y.1.2.1+(1:Int)),()),y.2.1++[g (a.getD (Int.toNat y.1.2.1) d)],())<μ y
   else K y.2:=by
 obtain ⟨I,μ,h0,h1⟩:=acs (fun _=>true) g d a t (A:=fun _=>True) (fun _ _=>trivial) hlen (K:=K) (by rw [List.filter_eq_self.2 fun _ _=>rfl];exact hK)
 refine ⟨I,μ,h0,fun y hy=>?_⟩
 have:=h1 y hy
 revert this
 cases decide (y.1.2.1<(a.length:Int)) with
 |true=>exact fun h=>⟨h.1,h.2.2⟩
 |false=>exact id
end Go.Fw
