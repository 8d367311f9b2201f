import Derived.Test.YtlbkigkbmeckbaaGreatFwA
import Derived.Lib.ItoaNum
import Derived.Lib.ItoaLen
import Derived.Lib.Join
import Derived.Test.YtlbkigkbmeckbaaGreatFwC
namespace Sp
open Go
abbrev Bytes:=List UInt8
abbrev LI:=List (Int×Unit)
abbrev LS:=List (Bytes×Unit)
theorem take_succ' {α:Type} (a:List α) (n:Nat) (d:α) (h:n<a.length):a.take (n+1)=a.take n++[a.getD n d]:=by
 rw [List.take_succ_eq_append_getElem h,List.getD_eq_getElem?_getD,List.getElem?_eq_getElem h];rfl
def ah8 (l:LI):Prop:=∀ x∈l,-9223372036854775808≤x.1∧x.1≤9223372036854775807
theorem ah8.take {a:LI} (h:ah8 a) (n:Nat):ah8 (a.take n):=fun x hx=>h x (List.mem_of_mem_take hx)
theorem ah8.get {a:LI} (h:ah8 a) {n:Nat} (hn:n<a.length) (d:Int×Unit):(Lib.itoa (a.getD n d).1).length≤21:=by
 have:a.getD n d∈a:=by rw [List.getD_eq_getElem?_getD,List.getElem?_eq_getElem hn,Option.getD_some];exact List.getElem_mem hn
 exact Lib.itoa_length_le _ (h _ this).1 (h _ this).2
end Sp
namespace Sp
open Go
set_option synthInstance.maxSize 100000
set_option synthInstance.maxHeartbeats 1000000
abbrev anW:=Int×Int×Bytes×Unit
abbrev fH:=Bytes×Int×Int×Bytes×Unit
abbrev bH:=Int×Int×Int×Bytes×Int×Int×Bytes×Unit
abbrev aN:=Int×Int×Bool×Int×List fH×Unit
abbrev aQ:=Bytes×List bH×Unit
abbrev akm:=Int×Int×Int×Bool×Int×List fH×Int×Bytes×List bH×Unit
instance:DecidableEq anW:=inferInstance
instance:DecidableEq fH:=inferInstance
instance:DecidableEq bH:=inferInstance
instance:DecidableEq aN:=inferInstance
instance:DecidableEq aQ:=inferInstance
instance:DecidableEq (Int×aQ):=inferInstance
instance:DecidableEq (List fH×Int×aQ):=inferInstance
instance:DecidableEq (Bool×Int×List fH×Int×aQ):=inferInstance
instance av3:DecidableEq akm:=(inferInstance:DecidableEq (Int×Int×Int×Bool×Int×List fH×Int×aQ))
instance:DecidableEq (List akm):=inferInstance
instance:DecidableEq (List akm×Bytes×Int×Unit):=inferInstance
def lower (s:Bytes):Bool:=s.all fun c=>decide (97≤c.toNat)&&decide (c.toNat≤122)
def iL (s:Bytes):Bool:=lower s&&decide (1≤(s.length:Int))&&decide ((s.length:Int)≤6)
def auk (n:Int):Bool:=decide (0≤n)&&decide (n≤1000000000)
def idxFrom:Int→LI→Int
 |_,[]=>-1
 |k,x::r=>if auk x.1 then idxFrom (k+1) r else k
def idxOf (l:LI):Int:=idxFrom 0 l
end Sp
namespace Sp
open Go
abbrev gK:=Bytes×Int×Unit
abbrev bV:=List gK×List aN×Int×Unit
instance:DecidableEq gK:=inferInstance
instance:DecidableEq (List gK):=inferInstance
instance:DecidableEq (List aN):=inferInstance
instance:DecidableEq (List aN×Int×Unit):=inferInstance
instance awv:DecidableEq bV:=(inferInstance:DecidableEq (List gK×List aN×Int×Unit))
def usual:List gK:=[([97],1,()),([98],1,()),([110],2,()),([116],2,())]
def bU (f:aN):Prop:=f.2.2.2.2.1.length≤1000
def bI (s:bV):Prop:=s.1.length≤1000∧s.2.1.length≤1000∧∀ f∈s.2.1,bU f
def jO (n:Nat) (f:Nat→Bool):Bool:=(List.range n).all f
def jQ (s:Bytes):Bool:=lower s&&decide (1≤(s.length:Int))&&decide ((s.length:Int)≤1)
def jX (k n:Int) (s:Bytes):Bool:=
 bif decide (k=0) then decide (n=0)&&decide (s=[])
 else bif decide (k=1) then decide (0≤n)&&decide (n≤999)&&decide (s=[])
 else bif decide (k=2) then iL s&&decide (n=0)
 else false
def kindOf:List gK→Bytes→Int
 |[],_=>0
 |f::r,s=>bif decide (f.1=s) then f.2.1 else kindOf r s
def fieldAt (fs:List gK) (i:Nat):gK:=fs.getD i ([],0,())
def lK (fs:List gK) (i:Nat):Bool:=
 jQ (fieldAt fs i).1&&(decide (1≤(fieldAt fs i).2.1)&&decide ((fieldAt fs i).2.1≤2))&&!(decide (0<i)&&!Op.bytesLess (fieldAt fs (i-1)).1 (fieldAt fs i).1)
def fQ (fs:List gK):Bool:=jO fs.length (lK fs)&&decide ((fs.length:Int)≤5)
def jw (fs:List gK) (name:Bytes) (k n:Int) (s:Bytes):Bool:=jX k n s&&!decide (k=0)&&decide (k=kindOf fs name)
def bZ (as:List fH) (i:Nat):fH:=as.getD i ([],0,0,[],())
def kE (fs:List gK) (as:List fH) (i:Nat):Bool:=
 jw fs (bZ as i).1 (bZ as i).2.1 (bZ as i).2.2.1 (bZ as i).2.2.2.1&&!(decide (0<i)&&!Op.bytesLess (bZ as (i-1)).1 (bZ as i).1)
def kP (fs:List gK) (as:List fH):Bool:=jO as.length (kE fs as)
def bY (fs:List gK) (f:aN):Bool:=
 kP fs f.2.2.2.2.1&&fQ fs&&(decide (1≤f.1)&&decide (f.1≤60))&&(decide (0≤f.2.1)&&decide (f.2.1≤2))&&(decide (0≤f.2.2.2.1)&&decide (f.2.2.2.1≤60))
def fileAt (fs:List aN) (i:Nat):aN:=fs.getD i (0,0,false,0,[],())
def kX (s:bV) (i:Nat):Bool:=
 bY s.1 (fileAt s.2.1 i)&&decide ((fileAt s.2.1 i).1<s.2.2.1)&&!(decide (0<i)&&!decide ((fileAt s.2.1 (i-1)).1<(fileAt s.2.1 i).1))
def aB (s:bV):Bool:=
 jO s.2.1.length (kX s)&&fQ s.1&&decide ((s.2.1.length:Int)≤12)&&(decide (1≤s.2.2.1)&&decide (s.2.2.1≤61))
def BO:Int→List aN→Int→Int
 |_,[],_=>-1
 |k,f::r,id=>bif decide (f.1=id) then k else BO (k+1) r id
def place (fs:List aN) (id:Int):Int:=BO 0 fs id
def Zd:aN:=(0,0,false,0,[],())
def eu (s:bV) (id:Int):aN×Bool:=
 bif decide (place s.2.1 id<0) then (Zd,false) else (fileAt s.2.1 (place s.2.1 id).toNat,true)
def tJ (name:Bytes) (b:fH):Bool:=!(b.1==name)
def vw (name:Bytes) (b:fH):Bool:=Op.bytesLess b.1 name||b.1==name
def aa2 (as:List fH) (a:fH):List fH:=as.takeWhile (vw a.1)++a::as.dropWhile (vw a.1)
def mJ (as:List fH) (name:Bytes) (k n:Int) (s:Bytes):List fH:=
 bif decide (k=0) then as.filter (tJ name) else aa2 (as.filter (tJ name)) (name,k,n,s,())
def aH (s:bV) (f:aN):bV×Int×Bool:=
 let g:aN:=(s.2.2.1,f.2)
 bif aB s&&decide ((s.2.1.length:Int)<12)&&bY s.1 g then ((s.1,s.2.1++[g],s.2.2.1+1,()),s.2.2.1,true) else (s,0,false)
def aU (s:bV) (f:aN):bV×Bool:=
 bif aB s&&!decide (place s.2.1 f.1<0)&&bY s.1 f then ((s.1,s.2.1.set (place s.2.1 f.1).toNat f,s.2.2.1,()),true) else (s,false)
def aT (s:bV) (id:Int):bV×Bool:=
 bif aB s&&!decide (place s.2.1 id<0) then ((s.1,s.2.1.eraseIdx (place s.2.1 id).toNat,s.2.2.1,()),true) else (s,false)
def Ej {α:Type} (p:α→Bool):Int→List α→Int
 |_,[]=>-1
 |k,f::r=>bif p f then k else Ej p (k+1) r
def findAt {α:Type} (p:α→Bool) (l:List α):Int:=Ej p 0 l
def fieldPlace (l:List gK) (name:Bytes):Int:=findAt (fun f=>f.1==name) l
end Sp
namespace Sp
theorem an7:∀ (n m:Nat) (L:Nat→Nat),(∀ k,k<m→∃ j,j<n∧L j=k)→m≤n
 |0,m,L,h=>by
  rcases Nat.eq_zero_or_pos m with h0|h0
  · omega
  · obtain ⟨j,hj,_⟩:=h 0 h0;omega
 |n+1,m,L,h=>by
  by_cases hv:L n<m
  · have:=an7 n (m-1) (fun j=>if L n<L j then L j-1 else L j) fun k hk=>by
     by_cases h1:k<L n
     · obtain ⟨j,hj,e⟩:=h k (by omega)
       have:j≠n:=fun e2=>by subst e2;omega
       exact ⟨j,by omega,by show (if _ then _ else _)=_;rw [if_neg (by omega)];exact e⟩
     · obtain ⟨j,hj,e⟩:=h (k+1) (by omega)
       have:j≠n:=fun e2=>by subst e2;omega
       exact ⟨j,by omega,by show (if _ then _ else _)=_;rw [if_pos (by omega)];omega⟩
    omega
  · have:=an7 n m L fun k hk=>by
     obtain ⟨j,hj,e⟩:=h k hk
     have:j≠n:=fun e2=>by subst e2;omega
     exact ⟨j,by omega,e⟩
    omega
abbrev UO:=List (Nat×Nat×Nat)
def jf (E:UO) (L:Nat→Nat):Prop:=∀ e∈E,L e.2.1+e.2.2≤L e.1
def akn (E:UO) (n:Nat):Prop:=∀ e∈E,e.1<n∧e.2.1<n∧e.2.2≤1
def sumTo (n:Nat) (L:Nat→Nat):Nat:=match n with|0=>0|n+1=>sumTo n L+L n
theorem sumTo_le {L M:Nat→Nat}:∀ n,(∀ i,i<n→L i≤M i)→sumTo n L≤sumTo n M
 |0,_=>Nat.le_refl _
 |n+1,h=>Nat.add_le_add (sumTo_le n fun i hi=>h i (by omega)) (h n (by omega))
theorem an8 {L M:Nat→Nat}:∀ n,(∀ i,i<n→L i≤M i)→(∃ i,i<n∧L i<M i)→sumTo n L<sumTo n M
 |0,_,⟨i,hi,_⟩=>by omega
 |n+1,h,⟨i,hi,hl⟩=>by
  have h1:=sumTo_le n fun j hj=>h j (Nat.lt_succ_of_lt hj)
  show sumTo n L+L n<sumTo n M+M n
  by_cases e:i=n
  · subst e;omega
  · have:=an8 n (fun j hj=>h j (Nat.lt_succ_of_lt hj)) ⟨i,by omega,hl⟩
    have:=h n (by omega)
    omega
theorem RU {E:UO} {n:Nat} (hE:akn E n):∀ (s:Nat) (L:Nat→Nat),sumTo n L≤s→jf E L→∃ M,jf E M∧∀ i,i<n→M i<n
 |s,L,hs,hL=>by
  by_cases hall:∀ i,i<n→L i<n
  · exact ⟨L,hL,hall⟩
  · obtain ⟨i,hi⟩:=Classical.not_forall.1 hall
    have hi1:i<n∧n≤L i:=by
     by_cases h1:i<n
     · exact ⟨h1,Nat.le_of_not_lt fun h2=>hi fun _=>h2⟩
     · exact (hi fun h2=>(h1 h2).elim).elim
    have avU:∃ k,k<n∧∀ j,j<n→L j≠k:=by
     refine Classical.byContradiction fun hno=>?_
     have:=an7 n (n+1) (fun j=>min (L j) n) fun k hk=>by
      by_cases h1:k<n
      · refine Classical.byContradiction fun h2=>hno ⟨k,h1,fun j hj e=>h2 ⟨j,hj,?_⟩⟩
        show min (L j) n=k
        omega
      · exact ⟨i,hi1.1,by show min (L i) n=k;omega⟩
     omega
    obtain ⟨k,hk,hno⟩:=avU
    have hlt:sumTo n (fun j=>if k<L j then L j-1 else L j)<sumTo n L:=by
     refine an8 n (fun j _=>?_) ⟨i,hi1.1,?_⟩
     · show (if _ then _ else _)≤_
       split
       · exact Nat.sub_le _ _
       · exact Nat.le_refl _
     · show (if _ then _ else _)<_;rw [if_pos (by omega)];omega
    match s,hs with
    |0,hs=>omega
    |s+1,hs=>
     refine RU hE s (fun j=>if k<L j then L j-1 else L j) (by omega) fun e he=>?_
     have h1:=hL e he
     obtain ⟨h2,h3,h4⟩:=hE e he
     have n1:=hno e.1 h2
     have n2:=hno e.2.1 h3
     show (if k<L e.2.1 then L e.2.1-1 else L e.2.1)+e.2.2≤(if k<L e.1 then L e.1-1 else L e.1)
     split<;>split<;>omega
theorem MV {E:UO} {n:Nat} (hE:akn E n) (h:∃ L,jf E L):∃ M,jf E M∧∀ i,i<n→M i<n:=by
 obtain ⟨L,hL⟩:=h
 exact RU hE (sumTo n L) L (Nat.le_refl _) hL
structure Raises (E:UO) (n:Nat) (R:(Nat→Nat)→Nat→Nat):Prop where
 up:∀ L i,L i≤R L i
 fix:∀ L,(∀ i,i<n→R L i=L i)→jf E L
 below:∀ L M,jf E M→(∀ i,i<n→L i≤M i)→∀ i,i<n→R L i≤M i
 same:∀ L L',(∀ i,i<n→L i=L' i)→∀ i,i<n→R L i=R L' i
end Sp
namespace Sp
open Go
abbrev auX:=List gK×List aN×Int×List aQ×Unit
abbrev aul:=Int×List gK×List aN×Int×List aQ×Int×Unit
instance:DecidableEq (List bH):=inferInstance
instance:DecidableEq aQ:=inferInstance
instance:DecidableEq (List aQ):=inferInstance
instance:DecidableEq (List aQ×Unit):=inferInstance
instance:DecidableEq (Int×List aQ×Unit):=inferInstance
instance:DecidableEq (List aN×Int×List aQ×Unit):=inferInstance
instance awQ:DecidableEq auX:=(inferInstance:DecidableEq (List gK×List aN×Int×List aQ×Unit))
instance:DecidableEq (List aQ×Int×Unit):=inferInstance
instance:DecidableEq (Int×List aQ×Int×Unit):=inferInstance
instance:DecidableEq (List aN×Int×List aQ×Int×Unit):=inferInstance
instance:DecidableEq (List gK×List aN×Int×List aQ×Int×Unit):=inferInstance
instance awZ:DecidableEq aul:=(inferInstance:DecidableEq (Int×List gK×List aN×Int×List aQ×Int×Unit))
instance:DecidableEq (List aul):=inferInstance
def nodeAt (q:List bH) (i:Nat):bH:=q.getD i (0,0,0,[],0,0,[],())
def jP (n:bH):Bool:=n.1==6||n.1==7
def jG (n:bH):Bool:=n.1==8||n.1==9
def kJ (n:bH) (a:Int):Bool:=
 let kids:=decide (0≤n.2.1)&&decide (n.2.1≤a-1)&&decide (0<a)
 let two:=decide (0≤n.2.2.1)&&decide (n.2.2.1≤a-1)
 let bare:=n.2.2.2.1==[]&&(n.2.2.2.2.1==0&&(n.2.2.2.2.2.1==0&&n.2.2.2.2.2.2.1==[]))
 let flat:=n.2.1==0&&n.2.2.1==0
 let valued:=jX n.2.2.2.2.1 n.2.2.2.2.2.1 n.2.2.2.2.2.2.1
 let void:=n.2.2.2.2.1==0&&(n.2.2.2.2.2.1==0&&n.2.2.2.2.2.2.1==[])
 bif n.1==1 then flat&&bare else bif n.1==2 then flat&&void&&jQ n.2.2.2.1 else
 bif n.1==3 then flat&&jQ n.2.2.2.1&&valued&&!(n.2.2.2.2.1==0) else bif n.1==4 then flat&&jQ n.2.2.2.1&&valued&&n.2.2.2.2.1==1 else
 bif n.1==5 then kids&&n.2.2.1==0&&bare else bif n.1==6||n.1==7 then kids&&two&&bare else
 bif n.1==8||n.1==9 then flat&&void&&iL n.2.2.2.1 else false
def refsOf (a:Int) (n:bH):Nat:=(bif (jP n||n.1==5)&&n.2.1==a then 1 else 0)+(bif jP n&&n.2.2.1==a then 1 else 0)
def pG (q:List bH) (a:Int):Nat:=(q.map (refsOf a)).sum
def nM (q:List bH) (i:Nat):Bool:=kJ (nodeAt q i) i&&!(decide ((i:Int)<(q.length:Int)-1)&&!(pG q i==1))
def bQ (q:List bH):Bool:=jO q.length (nM q)&&(decide (1≤(q.length:Int))&&decide ((q.length:Int)≤9))
def dV (d:List aQ) (i:Nat):aQ:=d.getD i ([],[],())
def oq (d:List aQ) (i:Nat):Bool:=iL (dV d i).1&&bQ (dV d i).2.1&&!(decide (0<i)&&!Op.bytesLess (dV d (i-1)).1 (dV d i).1)
def gB (d:List aQ):Bool:=jO d.length (oq d)&&decide ((d.length:Int)≤5)
def kQ (q:List bH) (i:Nat) (out:List (Bool×Unit)):List (Bool×Unit):=
 let n:=nodeAt q i
 bif n.1==5 then out.set n.2.1.toNat (true,()) else bif jP n then (out.set n.2.1.toNat ((out.getD i (false,())).1,())).set n.2.2.1.toNat ((out.getD i (false,())).1,()) else out
def jh (q:List bH):Nat→List (Bool×Unit)→List (Bool×Unit)
 |0,out=>out
 |n+1,out=>jh q n (kQ q n out)
def negated (q:List bH):List (Bool×Unit):=bif bQ q then jh q q.length (List.replicate q.length (false,())) else []
def fE (q:List bH) (neg:Bool):List Bytes:=(List.range (negated q).length).filterMap fun i=>bif jG (nodeAt q i)&&((negated q).getD i (false,())).1==neg then some (nodeAt q i).2.2.2.1 else none
def EC:Int→List aQ→Bytes→Int
 |_,[],_=>-1
 |k,x::r,s=>bif x.1==s then k else EC (k+1) r s
def aV (d:List aQ) (s:Bytes):Int:=EC 0 d s
def dX (d:List aQ):UO:=
 (List.range d.length).flatMap fun i=>
   ((fE (dV d i).2.1 false).filterMap fun s=>bif decide (0≤aV d s) then some (i,(aV d s).toNat,0) else none)++
   ((fE (dV d i).2.1 true).filterMap fun s=>bif decide (0≤aV d s) then some (i,(aV d s).toNat,1) else none)
open Classical in
noncomputable def aF (d:List aQ):Bool:=gB d&&decide (∃ L,jf (dX d) L)
def dD (r:LS) (l:List Bytes):Prop:=r.length≤1000∧∀ s,(s,())∈r↔s∈l
def zN (d:List aQ) (aG:List (Int×Unit)) (more:Int):LS→Int
 |[]=>0
 |x::r=>max (bif decide (0≤aV d x.1) then (aG.getD (aV d x.1).toNat (0,())).1+more else 0) (zN d aG more r)
def AU (l:LS) (s:Bytes):LS:=
 let n:=(l.takeWhile fun x=>Op.bytesLess x.1 s).length
 bif decide (n<l.length)&&(l.getD n ([],())).1==s then l else l.take n++[(s,())]++l.drop n
def raised (d:List aQ) (aG r:List (Int×Unit)):Prop:=
 r.length=d.length∧(∀ i,i<d.length→(aG.getD i (0,())).1≤(r.getD i (0,())).1)∧(∀ B:Int,(∀ i,i<d.length→(aG.getD i (0,())).1≤B)→∀ i,i<d.length→(r.getD i (0,())).1≤B+5000)∧
 ((∀ i,i<d.length→(r.getD i (0,())).1=(aG.getD i (0,())).1)→jf (dX d) fun i=>(aG.getD i (0,())).1.toNat)∧
 ∀ M,jf (dX d) M→(∀ i,i<d.length→(aG.getD i (0,())).1≤M i)→∀ i,i<d.length→(r.getD i (0,())).1≤M i
def aS (d:List aQ):Prop:=d.length≤1000∧∀ x∈d,x.2.1.length≤1000
end Sp
namespace Sp
open Go
end Sp
namespace Sp
open Go
theorem ZP (s:Bytes):∀ (d:List aQ) (k:Int),(EC k d s=-1∧∀ x∈d,x.1≠s)∨∃ n,n<d.length∧EC k d s=k+n∧(dV d n).1=s∧∀ i,i<n→(dV d i).1≠s
 |[],k=> .inl ⟨rfl,fun x hx=>by cases hx⟩
 |x::r,k=>by
  by_cases h:x.1=s
  · right
    refine ⟨0,by simp,?_,h,fun i hi=>by omega⟩
    rw [EC,beq_iff_eq.2 h];simp
  · rcases ZP s r (k+1) with ⟨h1,h2⟩|⟨n,h1,h2,h3,h4⟩
    · left
      refine ⟨by rw [EC,beq_eq_false_iff_ne.2 h];exact h1,fun y hy=>?_⟩
      rcases List.mem_cons.1 hy with rfl|hy
      · exact h
      · exact h2 y hy
    · right
      refine ⟨n+1,by simp;omega,by rw [EC,beq_eq_false_iff_ne.2 h];show EC (k+1) r s=_;omega,h3,fun i hi=>?_⟩
      cases i with
      |zero=>exact h
      |succ i=>exact h4 i (by omega)
theorem Ez (d:List aQ) (s:Bytes):(aV d s=-1∧∀ x∈d,x.1≠s)∨∃ n,n<d.length∧aV d s=n∧(dV d n).1=s∧∀ i,i<n→(dV d i).1≠s:=by
 rcases ZP s d 0 with h|⟨n,h1,h2,h3⟩
 · exact .inl h
 · exact .inr ⟨n,h1,by show EC 0 d s=_;omega,h3⟩
theorem Jh {d:List aQ} {s:Bytes} (h:0≤aV d s):aV d s<d.length:=by
 rcases Ez d s with ⟨h1,_⟩|⟨n,h1,h2,_⟩<;>omega
theorem Ef {d:List aQ} {i j m:Nat}:(i,j,m)∈dX d↔i<d.length∧∃ s,((m=0∧s∈fE (dV d i).2.1 false)∨(m=1∧s∈fE (dV d i).2.1 true))∧0≤aV d s∧j=(aV d s).toNat:=by
 unfold dX
 rw [List.mem_flatMap]
 constructor
 · rintro ⟨k,hk,h⟩
   rw [List.mem_range] at hk
   rcases List.mem_append.1 h with h|h
   all_goals
    obtain ⟨s,hs,e⟩:=List.mem_filterMap.1 h
    rw [cond_eq_ite] at e
    split at e
    · next hp=>
      have hp:0≤aV d s:=of_decide_eq_true hp
      cases e
      exact ⟨hk,s,by first|exact .inl ⟨rfl,hs⟩|exact .inr ⟨rfl,hs⟩,hp,rfl⟩
    · cases e
 · rintro ⟨hi,s,h|h,hp,rfl⟩
   · obtain ⟨rfl,hs⟩:=h
     refine ⟨i,List.mem_range.2 hi,List.mem_append.2 (.inl (List.mem_filterMap.2 ⟨s,hs,?_⟩))⟩
     rw [decide_eq_true hp];rfl
   · obtain ⟨rfl,hs⟩:=h
     refine ⟨i,List.mem_range.2 hi,List.mem_append.2 (.inr (List.mem_filterMap.2 ⟨s,hs,?_⟩))⟩
     rw [decide_eq_true hp];rfl
theorem mr (d:List aQ):akn (dX d) d.length:=by
 rintro ⟨i,j,m⟩ he
 obtain ⟨h1,s,h2,h3,h4⟩:=Ef.1 he
 have:=Jh h3
 refine ⟨h1,?_,?_⟩
 · show j<_;omega
 · show m≤1;rcases h2 with ⟨h,_⟩|⟨h,_⟩<;>omega
def lv (l:List (Int×Unit)) (i:Nat):Int:=(l.getD i (0,())).1
theorem anV {l:List (Int×Unit)} {i:Nat} (hi:i<l.length) (x:Int) (k:Nat):lv (l.set i (x,())) k=if k=i then x else lv l k:=by
 unfold lv
 rw [List.getD_eq_getElem?_getD,List.getD_eq_getElem?_getD]
 by_cases h:k=i
 · subst h;rw [List.getElem?_set_self hi,if_pos rfl];rfl
 · rw [List.getElem?_set_ne (fun e=>h e.symm),if_neg h]
theorem Y5 {l:List (Int×Unit)} {i:Nat} (hi:i<l.length):(lv l i,())∈l:=by
 unfold lv
 rw [List.getD_eq_getElem?_getD,List.getElem?_eq_getElem hi]
 exact List.getElem_mem hi
theorem anU {l:List (Int×Unit)} {p:Int→Prop} (h:∀ i,i<l.length→p (lv l i)):∀ x∈l,p x.1:=by
 intro x hx
 obtain ⟨i,hi,e⟩:=List.getElem_of_mem hx
 have:=h i hi
 unfold lv at this
 rw [List.getD_eq_getElem?_getD,List.getElem?_eq_getElem hi] at this
 rw [← e];exact this
theorem ars {a b:List (Int×Unit)} (hl:a.length=b.length) (h:∀ i,i<a.length→lv a i=lv b i):a=b:=by
 refine List.ext_getElem hl fun i h1 h2=>?_
 have:=h i h1
 unfold lv at this
 rw [List.getD_eq_getElem?_getD,List.getD_eq_getElem?_getD,List.getElem?_eq_getElem h1,List.getElem?_eq_getElem h2] at this
 exact Prod.ext this rfl
structure Il (d:List aQ) (aG cur:List (Int×Unit)) (g:Int) (P:Nat×Nat×Nat→Prop):Prop where
 len:cur.length=d.length
 up:∀ i,i<d.length→lv aG i≤lv cur i
 grow:∀ B,(∀ i,i<d.length→lv aG i≤B)→∀ i,i<d.length→lv cur i≤B+g
 fix:(∀ i,i<d.length→lv cur i=lv aG i)→∀ e,P e→lv aG e.2.1+e.2.2≤lv aG e.1
 below:∀ M,jf (dX d) M→(∀ i,i<d.length→lv aG i≤M i)→∀ i,i<d.length→lv cur i≤M i
theorem Il.start {d:List aQ} {aG:List (Int×Unit)} (h:aG.length=d.length):Il d aG aG 0 fun _=>False:=
 ⟨h,fun _ _=>Int.le_refl _,fun B hB i hi=>by have:=hB i hi;omega,fun _ e he=>he.elim,fun _ _ h=>h⟩
theorem Il.weaken {d:List aQ} {aG cur:List (Int×Unit)} {g g':Int} {P P':Nat×Nat×Nat→Prop} (h:Il d aG cur g P) (hg:g≤g') (hP:∀ e,P' e→P e):Il d aG cur g' P':=
 ⟨h.len,h.up,fun B hB i hi=>by have:=h.grow B hB i hi;omega,fun hx e he=>h.fix hx e (hP e he),h.below⟩
theorem Il.still {d:List aQ} {aG cur:List (Int×Unit)} {g:Int} {P:Nat×Nat×Nat→Prop} (h:Il d aG cur g P) {i j m:Nat} (he:(i,j,m)∈dX d) (hle:lv cur j+m≤lv cur i):Il d aG cur g fun e=>P e∨e=(i,j,m):=by
 obtain ⟨h1,h2,_⟩:=mr d _ he
 refine ⟨h.len,h.up,h.grow,fun hx e hp=>?_,h.below⟩
 rcases hp with hp|rfl
 · exact h.fix hx e hp
 · have a:=hx i h1
   have b:=hx j h2
   show lv aG j+m≤lv aG i
   omega
theorem Il.set {d:List aQ} {aG cur:List (Int×Unit)} {g:Int} {P:Nat×Nat×Nat→Prop} (h:Il d aG cur g P) {i j m:Nat} (he:(i,j,m)∈dX d) (hlt:lv cur i<lv cur j+m):Il d aG (cur.set i (lv cur j+m,())) (g+m) fun e=>P e∨e=(i,j,m):=by
 obtain ⟨h1,h2,_⟩:=mr d _ he
 have h1:i<d.length:=h1
 have h2:j<d.length:=h2
 have hl:=h.len
 have hs:=fun k=>anV (l:=cur) (i:=i) (by omega) (lv cur j+m) k
 refine ⟨by simp;omega,fun k hk=>?_,fun B hB k hk=>?_,fun hx e hp=>?_,fun M hM hb k hk=>?_⟩
 · rw [hs];have a:=h.up k hk;split
   · next e=>subst e;omega
   · exact a
 · rw [hs]
   have a:=h.grow B hB k hk
   have b:=h.grow B hB j h2
   split<;>omega
 · have:=hx i h1
   rw [hs,if_pos rfl] at this
   have:=h.up i h1
   omega
 · rw [hs]
   split
   · next e=>
     subst e
     have a:=h.below M hM hb j h2
     have b:=hM _ he
     have b:M j+m≤M k:=b
     omega
   · exact h.below M hM hb k hk
theorem Il.raised {d:List aQ} {aG cur:List (Int×Unit)} {g:Int} {P:Nat×Nat×Nat→Prop} (h:Il d aG cur g P) (hg:g≤5000) (hP:∀ e∈dX d,P e) (h0:∀ i,i<d.length→0≤lv aG i):raised d aG cur:=by
 refine ⟨h.len,h.up,fun B hB i hi=>by have:=h.grow B hB i hi;show lv cur i≤_;omega,fun hx e he=>?_,h.below⟩
 have a:=h.fix hx e (hP e he)
 obtain ⟨h1,h2,_⟩:=mr d _ he
 have b:=h0 _ h1
 have c:=h0 _ h2
 show (lv aG e.2.1).toNat+e.2.2≤(lv aG e.1).toNat
 omega
theorem ah9 (d:List aQ) (aG:List (Int×Unit)) (hl:aG.length=d.length):∀ (E:UO),(∀ e∈E,e∈dX d)→∃ cur:List (Int×Unit),cur.length=d.length∧(∀ i,i<d.length→lv aG i≤lv cur i∧(lv cur i=lv aG i∨∃ e∈E,e.1=i∧lv cur i=lv aG e.2.1+e.2.2))∧∀ e∈E,lv aG e.2.1+e.2.2≤lv cur e.1
 |[],_=>⟨aG,hl,fun i hi=>⟨Int.le_refl _, .inl rfl⟩,fun e he=>by cases he⟩
 |e::E,hE=>by
  obtain ⟨cur,h1,h2,h3⟩:=ah9 d aG hl E fun x hx=>hE x (List.mem_cons_of_mem _ hx)
  obtain ⟨g1,g2,_⟩:=mr d e (hE e List.mem_cons_self)
  by_cases h:lv cur e.1<lv aG e.2.1+e.2.2
  · have hs:=fun k=>anV (l:=cur) (i:=e.1) (by omega) (lv aG e.2.1+e.2.2) k
    refine ⟨cur.set e.1 (lv aG e.2.1+e.2.2,()),by simp;omega,fun i hi=>?_,fun x hx=>?_⟩
    · rw [hs]
      have:=h2 i hi
      split
      · next hi'=>exact ⟨by rw [hi'] at this ⊢;omega, .inr ⟨e,List.mem_cons_self,hi'.symm,rfl⟩⟩
      · refine ⟨this.1,this.2.imp_right fun ⟨x,hx,hy⟩=>⟨x,List.mem_cons_of_mem _ hx,hy⟩⟩
    · rw [hs]
      rcases List.mem_cons.1 hx with rfl|hx
      · rw [if_pos rfl];omega
      · have:=h3 x hx
        split
        · next he=>rw [he] at this;omega
        · exact this
  · refine ⟨cur,h1,fun i hi=>?_,fun x hx=>?_⟩
    · have:=h2 i hi
      exact ⟨this.1,this.2.imp_right fun ⟨x,hx,hy⟩=>⟨x,List.mem_cons_of_mem _ hx,hy⟩⟩
    · rcases List.mem_cons.1 hx with rfl|hx
      · omega
      · exact h3 x hx
theorem aoM (d:List aQ) (aG:List (Int×Unit)) (hl:aG.length=d.length) (h0:∀ i,i<d.length→0≤lv aG i):∃ cur,raised d aG cur:=by
 obtain ⟨cur,h1,h2,h3⟩:=ah9 d aG hl (dX d) fun _ h=>h
 refine ⟨cur,h1,fun i hi=>(h2 i hi).1,fun B hB i hi=>?_,fun hx e he=>?_,fun M hM hb i hi=>?_⟩
 · show lv cur i≤_
   rcases (h2 i hi).2 with h|⟨e,he,rfl,h⟩
   · rw [h];have:=hB i hi;show (aG.getD i (0,())).1≤_;omega
   · obtain ⟨_,g2,g3⟩:=mr d e he
     have:lv aG e.2.1≤B:=hB _ g2
     omega
 · obtain ⟨g1,g2,_⟩:=mr d e he
   have a:=h3 e he
   have b:=h0 _ g1
   have c:=h0 _ g2
   have x:lv cur e.1=lv aG e.1:=hx _ g1
   show (lv aG e.2.1).toNat+e.2.2≤(lv aG e.1).toNat
   omega
 · show lv cur i≤_
   rcases (h2 i hi).2 with h|⟨e,he,rfl,h⟩
   · rw [h];exact hb i hi
   · obtain ⟨_,g2,_⟩:=mr d e he
     have a:lv aG e.2.1≤M e.2.1:=hb _ g2
     have b:=hM e he
     omega
theorem Gs {d:List aQ} {aG:List (Int×Unit)} {more:Int}:∀ (r:LS) (B:Int),zN d aG more r≤B↔0≤B∧∀ x∈r,0≤aV d x.1→lv aG (aV d x.1).toNat+more≤B
 |[],B=>by simp [zN]
 |x::r,B=>by
  have ih:=Gs (d:=d) (aG:=aG) (more:=more) r B
  rw [zN]
  have e:∀ a b:Int,max a b≤B↔a≤B∧b≤B:=fun a b=>by omega
  rw [e,ih]
  simp only [List.mem_cons,forall_eq_or_imp]
  by_cases h:0≤aV d x.1
  · rw [decide_eq_true h]
    show lv aG _+more≤B∧_↔_
    constructor
    · exact fun ⟨a,b,c⟩=>⟨b,fun _=>a,c⟩
    · exact fun ⟨a,b,c⟩=>⟨b h,a,c⟩
  · rw [decide_eq_false h]
    show (0:Int)≤B∧_↔_
    constructor
    · exact fun ⟨a,b,c⟩=>⟨b,fun h'=>(h h').elim,c⟩
    · exact fun ⟨a,b,c⟩=>⟨a,a,c⟩
def Ac (l:List (Int×Unit)):Nat→Int
 |0=>0
 |n+1=>Ac l n+lv l n
theorem aeF {a b:List (Int×Unit)}:∀ n,(∀ i,i<n→lv a i≤lv b i)→Ac a n≤Ac b n
 |0,_=>Int.le_refl _
 |n+1,h=>Int.add_le_add (aeF n fun i hi=>h i (by omega)) (h n (by omega))
theorem aeE {a b:List (Int×Unit)}:∀ n,(∀ i,i<n→lv a i≤lv b i)→(∃ i,i<n∧lv a i<lv b i)→Ac a n<Ac b n
 |0,_,⟨i,hi,_⟩=>by omega
 |n+1,h,⟨i,hi,hl⟩=>by
  have h1:=aeF n fun j hj=>h j (Nat.lt_succ_of_lt hj)
  show Ac a n+lv a n<Ac b n+lv b n
  by_cases e:i=n
  · subst e;omega
  · have:=aeE n (fun j hj=>h j (Nat.lt_succ_of_lt hj)) ⟨i,by omega,hl⟩
    have:=h n (by omega)
    omega
theorem PE {a:List (Int×Unit)} {b:Nat}:∀ n:Nat,(∀ i,i<n→lv a i≤b)→Ac a n≤(n*b:Nat)
 |0,_=>by simp [Ac]
 |n+1,h=>by
  have h1:=PE n fun i hi=>h i (Nat.lt_succ_of_lt hi)
  have h2:=h n (by omega)
  show Ac a n+lv a n≤((n+1)*b:Nat)
  rw [Nat.succ_mul];omega
theorem YX {a:List (Int×Unit)}:∀ n:Nat,(∀ i,i<n→0≤lv a i)→0≤Ac a n
 |0,_=>Int.le_refl _
 |n+1,h=>Int.add_nonneg (YX n fun i hi=>h i (by omega)) (h n (by omega))
theorem oh {d:List aQ}:aF d=true↔gB d=true∧∃ L,jf (dX d) L:=by
 unfold aF
 simp
theorem TV {d:List aQ} (h:gB d=true):d.length≤5:=by
 unfold gB at h
 simp only [Bool.and_eq_true,decide_eq_true_eq] at h
 omega
end Sp
namespace Sp
abbrev Ext (ι α:Type):=ι→α→Bool
structure Sys (ι α:Type) where
 T:ι→Ext ι α→α→Prop
 pos:ι→ι→Prop
 neg:ι→ι→Prop
 mono:∀ i X Y,(∀ j,pos i j→∀ x,X j x=true→Y j x=true)→(∀ j,neg i j→∀ x,X j x=Y j x)→∀ x,T i X x→T i Y x
def amO {ι α:Type} (S:Sys ι α) (N:ι→Prop) (aG:ι→Nat):Prop:=∀ i j,N i→N j→(S.pos i j→aG j≤aG i)∧(S.neg i j→aG j<aG i)
structure Eval {ι α:Type} (S:Sys ι α) (N:ι→Prop) (aG:ι→Nat) (X:Ext ι α):Prop where
 fix:∀ i,N i→∀ x,X i x=true↔S.T i X x
 least:∀ k (Y:Ext ι α),(∀ i,¬ (N i∧aG i=k)→∀ x,Y i x=X i x)→(∀ i,N i→aG i=k→∀ x,S.T i Y x→Y i x=true)→∀ i,N i→aG i=k→∀ x,X i x=true→Y i x=true
open Classical in
theorem apv {ι α:Type} {P:ι→Prop} {A B:Ext ι α}:∃ Y:Ext ι α,(∀ i x,Y i x=true↔A i x=true∧(P i→B i x=true))∧∀ i,¬ P i→∀ x,Y i x=A i x:=by
 have h:∀ i x,decide (A i x=true∧(P i→B i x=true))=true↔A i x=true∧(P i→B i x=true):=fun i x=>decide_eq_true_iff
 refine ⟨fun i x=>decide (A i x=true∧(P i→B i x=true)),h,fun i hi x=>?_⟩
 rw [Bool.eq_iff_iff,h]
 exact ⟨fun h=>h.1,fun h=>⟨h,fun h'=>(hi h').elim⟩⟩
theorem Qe {ι α:Type} {S1 S2:Sys ι α} {N1 N2 U:ι→Prop} {l1 l2:ι→Nat} {X1 X2:Ext ι α}
 (h1:Eval S1 N1 l1 X1) (h2:Eval S2 N2 l2 X2) (s1:amO S1 N1 l1) (s2:amO S2 N2 l2) (u1:∀ i,U i→N1 i) (u2:∀ i,U i→N2 i)
 (hT:∀ i,U i→∀ X x,S1.T i X x↔S2.T i X x) (hp:∀ i,U i→∀ j,S2.pos i j→S1.pos i j) (hn:∀ i,U i→∀ j,S2.neg i j→S1.neg i j)
 (hc:∀ i,U i→∀ j,S1.pos i j∨S1.neg i j→U j∨∀ x,X1 j x=X2 j x):∀ i,U i→∀ x,X1 i x=X2 i x:=by
 have key:∀ k,∀ i,U i→l1 i=k→∀ x,X1 i x=X2 i x:=by
  intro k
  induction k using Nat.strongRecOn with
  |_ k ih=>
   have below:∀ j,U j→l1 j<k→∀ x,X1 j x=X2 j x:=fun j hj hl=>ih (l1 j) hl j hj rfl
   have auY:∀ i,U i→l1 i=k→∀ x,X1 i x=true→X2 i x=true:=by
    obtain ⟨Y,hY,Yp⟩:=apv (P:=fun i=>U i∧l1 i=k) (A:=X1) (B:=X2)
    have:=h1.least k Y (fun i hi=>Yp i fun h=>hi ⟨u1 i h.1,h.2⟩) fun i hN hl x hx=>by
     have an9:∀ j,S1.neg i j→∀ x,Y j x=X1 j x:=fun j hj=>Yp j fun h=>by
      have:=(s1 i j hN (u1 j h.1)).2 hj;omega
     refine (hY i x).2 ⟨(h1.fix i hN x).2 (S1.mono i Y X1 (fun j _ y hy=>((hY j y).1 hy).1) an9 x hx),fun hU=>?_⟩
     refine (h2.fix i (u2 i hU.1) x).2 ((hT i hU.1 X2 x).1 (S1.mono i Y X2 (fun j hj y hy=>?_) (fun j hj y=>?_) x hx))
     · have hy:=(hY j y).1 hy
       rcases hc i hU.1 j (.inl hj) with h|h
       · have hl2:=(s1 i j hN (u1 j h)).1 hj
         rcases Nat.lt_or_ge (l1 j) k with h3|h3
         · rw [← below j h h3];exact hy.1
         · exact hy.2 ⟨h,by omega⟩
       · rw [← h];exact hy.1
     · rw [an9 j hj]
       rcases hc i hU.1 j (.inr hj) with h|h
       · exact below j h (by have:=(s1 i j hN (u1 j h)).2 hj;omega) y
       · exact h y
    exact fun i hU hl x hx=>((hY i x).1 (this i (u1 i hU) hl x hx)).2 ⟨hU,hl⟩
   have auZ:∀ m,∀ i,U i→l1 i=k→l2 i=m→∀ x,X2 i x=true→X1 i x=true:=by
    intro m
    induction m using Nat.strongRecOn with
    |_ m ih2=>
     obtain ⟨Y,hY,Yp⟩:=apv (P:=fun i=>U i∧l1 i=k∧l2 i=m) (A:=X2) (B:=X1)
     have:=h2.least m Y (fun i hi=>Yp i fun h=>hi ⟨u2 i h.1,h.2.2⟩) fun i hN hl x hx=>by
      have an9:∀ j,S2.neg i j→∀ x,Y j x=X2 j x:=fun j hj=>Yp j fun h=>by
       have:=(s2 i j hN (u2 j h.1)).2 hj;omega
      refine (hY i x).2 ⟨(h2.fix i hN x).2 (S2.mono i Y X2 (fun j _ y hy=>((hY j y).1 hy).1) an9 x hx),fun hU=>?_⟩
      refine (h1.fix i (u1 i hU.1) x).2 ((hT i hU.1 X1 x).2 (S2.mono i Y X1 (fun j hj y hy=>?_) (fun j hj y=>?_) x hx))
      · have hy:=(hY j y).1 hy
        have hj1:=hp i hU.1 j hj
        rcases hc i hU.1 j (.inl hj1) with h|h
        · have g1:=(s1 i j (u1 i hU.1) (u1 j h)).1 hj1
          have g2:=(s2 i j hN (u2 j h)).1 hj
          rcases Nat.lt_or_ge (l1 j) k with h3|h3
          · rw [below j h h3];exact hy.1
          · rcases Nat.lt_or_ge (l2 j) m with h4|h4
            · exact ih2 (l2 j) h4 j h (by omega) rfl y hy.1
            · exact hy.2 ⟨h,by omega,by omega⟩
        · rw [h];exact hy.1
      · rw [an9 j hj]
        have hj1:=hn i hU.1 j hj
        rcases hc i hU.1 j (.inr hj1) with h|h
        · exact (below j h (by have:=(s1 i j (u1 i hU.1) (u1 j h)).2 hj1;omega) y).symm
        · exact (h y).symm
     exact fun i hU hl1 hl2 x hx=>((hY i x).1 (this i (u2 i hU) hl2 x hx)).2 ⟨hU,hl1,hl2⟩
   exact fun i hU hl x=>Bool.eq_iff_iff.2 ⟨auY i hU hl x,auZ (l2 i) i hU hl rfl x⟩
 exact fun i hU x=>key (l1 i) i hU rfl x
end Sp
namespace Sp
open Go
abbrev dn:=Bytes×List (Int×Unit)×Unit
abbrev BX:=Ext Bytes Int
def cO:List fH→Bytes→anW
 |[],_=>(0,0,[],())
 |a::r,s=>bif a.1==s then (a.2.1,a.2.2.1,a.2.2.2.1,()) else cO r s
def fM:List dn→Bytes→List (Int×Unit)
 |[],_=>[]
 |x::r,s=>bif x.1==s then x.2.1 else fM r s
def dw (l:List (Int×Unit)) (x:Int):Bool:=l.any fun y=>y.1==x
def bC (r:List dn):BX:=fun s x=>dw (fM r s) x
theorem BP {l:List (Int×Unit)} {x:Int}:dw l x=true↔(x,())∈l:=by
 unfold dw
 rw [List.any_eq_true]
 exact ⟨fun ⟨y,hy,h⟩=>by rw [← beq_iff_eq.1 h];exact hy,fun h=>⟨_,h,beq_iff_eq.2 rfl⟩⟩
def iP (n:bH) (f:aN) (X:BX):Bool:=
 bif n.1==2 then !((cO f.2.2.2.2.1 n.2.2.2.1).1==0) else
 bif n.1==3 then decide (cO f.2.2.2.2.1 n.2.2.2.1=(n.2.2.2.2.1,n.2.2.2.2.2.1,n.2.2.2.2.2.2.1,())) else
 bif n.1==4 then (cO f.2.2.2.2.1 n.2.2.2.1).1==1&&decide ((cO f.2.2.2.2.1 n.2.2.2.1).2.1<n.2.2.2.2.2.1) else
 bif n.1==8 then X n.2.2.2.1 f.1 else
 bif n.1==9 then !(f.2.2.2.1==0)&&X n.2.2.2.1 f.2.2.2.1 else true
def val (q:List bH) (f:aN) (X:BX) (a:Nat):Bool:=
 if (nodeAt q a).1=5 then (if h:(nodeAt q a).2.1.toNat<a then !val q f X (nodeAt q a).2.1.toNat else true)
 else if (nodeAt q a).1=6 then (if h:(nodeAt q a).2.1.toNat<a∧(nodeAt q a).2.2.1.toNat<a then val q f X (nodeAt q a).2.1.toNat&&val q f X (nodeAt q a).2.2.1.toNat else true)
 else if (nodeAt q a).1=7 then (if h:(nodeAt q a).2.1.toNat<a∧(nodeAt q a).2.2.1.toNat<a then val q f X (nodeAt q a).2.1.toNat||val q f X (nodeAt q a).2.2.1.toNat else true)
 else iP (nodeAt q a) f X
termination_by a
decreasing_by all_goals omega
theorem Jy (q:List bH) (f:aN) (X:BX) (a:Nat):val q f X a=
 if (nodeAt q a).1=5 then (if h:(nodeAt q a).2.1.toNat<a then !val q f X (nodeAt q a).2.1.toNat else true)
 else if (nodeAt q a).1=6 then (if h:(nodeAt q a).2.1.toNat<a∧(nodeAt q a).2.2.1.toNat<a then val q f X (nodeAt q a).2.1.toNat&&val q f X (nodeAt q a).2.2.1.toNat else true)
 else if (nodeAt q a).1=7 then (if h:(nodeAt q a).2.1.toNat<a∧(nodeAt q a).2.2.1.toNat<a then val q f X (nodeAt q a).2.1.toNat||val q f X (nodeAt q a).2.2.1.toNat else true)
 else iP (nodeAt q a) f X:=by rw [val]
def iM (q:List bH) (f:aN) (X:BX):Bool:=bQ q&&val q f X (q.length-1)
def sel (fs:List aN) (q:List bH) (X:BX):List (Int×Unit):=(fs.filter fun f=>iM q f X).map fun f=>(f.1,())
def CQ (q:List bH) (i:Nat):Bool:=((negated q).getD i (false,())).1
theorem Na {q:List bH} (h:bQ q=true) {i:Nat} (hi:i<q.length):kJ (nodeAt q i) i=true∧((i:Int)<(q.length:Int)-1→pG q i=1):=by
 unfold bQ at h
 rw [Bool.and_eq_true] at h
 have h1:nM q i=true:=by
  have:=h.1
  unfold jO at this
  exact List.all_eq_true.1 this i (List.mem_range.2 hi)
 unfold nM at h1
 rw [Bool.and_eq_true] at h1
 refine ⟨h1.1,fun hl=>?_⟩
 have h2:=h1.2
 rw [decide_eq_true hl] at h2
 simpa using h2
theorem Fv {q:List bH} (h:bQ q=true):1≤q.length∧q.length≤9:=by
 unfold bQ at h
 simp only [Bool.and_eq_true,decide_eq_true_eq] at h
 omega
theorem adu {n:bH} {a:Nat} (h:kJ n a=true) (hn:n.1=5∨n.1=6∨n.1=7):0≤n.2.1∧n.2.1.toNat<a:=by
 unfold kJ at h
 rcases hn with e|e|e<;>simp [e] at h<;>omega
theorem Lr {n:bH} {a:Nat} (h:kJ n a=true) (hn:n.1=6∨n.1=7):0≤n.2.2.1∧n.2.2.1.toNat<a:=by
 unfold kJ at h
 rcases hn with e|e<;>simp [e] at h<;>omega
theorem apw {α:Type} (g:α→Nat):∀ (l:List α),(l.map g).sum=1→∀ i j,i<l.length→j<l.length→i≠j→∀ d,1≤g (l.getD i d)→g (l.getD j d)=0
 |[],_,i,_,hi,_,_,_,_=>by simp at hi
 |x::r,h,i,j,hi,hj,hne,d,hg=>by
  rw [List.map_cons,List.sum_cons] at h
  have mem:∀ (l:List α) k,k<l.length→g (l.getD k d)≤(l.map g).sum:=by
   intro l
   induction l with
   |nil=>intro k hk;simp at hk
   |cons y t ih=>
    intro k hk
    rw [List.map_cons,List.sum_cons]
    cases k with
    |zero=>exact Nat.le_add_right _ _
    |succ k=>exact Nat.le_trans (ih k (by simpa using hk)) (Nat.le_add_left _ _)
  cases i with
  |zero=>
   cases j with
   |zero=>exact (hne rfl).elim
   |succ j=>
    have h1:1≤g x:=hg
    have:=mem r j (by simpa using hj)
    show g (r.getD j d)=0
    omega
  |succ i=>
   have h1:1≤g (r.getD i d):=hg
   have h2:=mem r i (by simpa using hi)
   cases j with
   |zero=>show g x=0;omega
   |succ j=>exact apw g r (by omega) i j (by simpa using hi) (by simpa using hj) (by omega) d hg
theorem HY {q:List bH} {p:Nat}:∀ (n:Nat) (out:List (Bool×Unit)),(∀ i,i<n→((nodeAt q i).1=5∨jP (nodeAt q i)=true→(nodeAt q i).2.1.toNat≠p)∧(jP (nodeAt q i)=true→(nodeAt q i).2.2.1.toNat≠p))→
 (jh q n out).getD p (false,())=out.getD p (false,())
 |0,_,_=>rfl
 |n+1,out,h=>by
  have ih:=HY n (kQ q n out) fun i hi=>h i (by omega)
  show (jh q n (kQ q n out)).getD p (false,())=_
  rw [ih]
  have hs:∀ (l:List (Bool×Unit)) k x,k≠p→(l.set k x).getD p (false,())=l.getD p (false,()):=fun l k x hk=>by
   rw [List.getD_eq_getElem?_getD,List.getElem?_set_ne hk,← List.getD_eq_getElem?_getD]
  obtain ⟨h1,h2⟩:=h n (by omega)
  unfold kQ
  dsimp only
  cases e5:((nodeAt q n).1==5) with
  |true=>exact hs _ _ _ (h1 (.inl (beq_iff_eq.1 e5)))
  |false=>
   cases e2:jP (nodeAt q n) with
   |true=>exact (hs _ _ _ (h2 e2)).trans (hs _ _ _ (h1 (.inr e2)))
   |false=>rfl
theorem FB (q:List bH):∀ (n:Nat) (out:List (Bool×Unit)),(jh q n out).length=out.length
 |0,_=>rfl
 |n+1,out=>by
  show (jh q n (kQ q n out)).length=_
  rw [FB q n]
  unfold kQ
  dsimp only
  cases (nodeAt q n).1==5<;>cases jP (nodeAt q n)<;>simp
theorem Ad {n:bH}:jP n=true↔n.1=6∨n.1=7:=by
 unfold jP;simp
theorem VA (q:List bH):∀ (k m:Nat) (out:List (Bool×Unit)),∃ mid:List (Bool×Unit),mid.length=out.length∧jh q (m+k) out=jh q m mid
 |0,_,out=>⟨out,rfl,rfl⟩
 |k+1,m,out=>by
  obtain ⟨mid,h1,h2⟩:=VA q k m (kQ q (m+k) out)
  have hl:(kQ q (m+k) out).length=out.length:=by
   unfold kQ
   dsimp only
   cases (nodeAt q (m+k)).1==5<;>cases jP (nodeAt q (m+k))<;>simp
  exact ⟨mid,h1.trans hl,h2⟩
theorem MZ {q:List bH} (h:bQ q=true) {i:Nat} (hi:i<q.length):((nodeAt q i).1=5∨jP (nodeAt q i)=true→0≤(nodeAt q i).2.1∧(nodeAt q i).2.1.toNat<i)∧(jP (nodeAt q i)=true→0≤(nodeAt q i).2.2.1∧(nodeAt q i).2.2.1.toNat<i):=by
 have h1:=(Na h hi).1
 refine ⟨fun h2=>?_,fun h2=>Lr h1 (Ad.1 h2)⟩
 rcases h2 with h2|h2
 · exact adu h1 (.inl h2)
 · exact adu h1 (.inr (Ad.1 h2))
theorem aqu {q:List bH} (h:bQ q=true) {i j p:Nat} (hi:i<q.length) (hj:j<q.length) (hne:i≠j) (hp:p<i) (hr:1≤refsOf p (nodeAt q i)):refsOf p (nodeAt q j)=0:=
 apw (refsOf p) q ((Na h (by omega)).2 (by omega)) i j hi hj hne _ hr
theorem aoN {p:Nat} {n:bH} (h:refsOf p n=0) (h0:((n.1=5∨jP n=true)→0≤n.2.1)∧(jP n=true→0≤n.2.2.1)):(n.1=5∨jP n=true→n.2.1.toNat≠p)∧(jP n=true→n.2.2.1.toNat≠p):=by
 unfold refsOf at h
 refine ⟨fun h1 h2=>?_,fun h1 h2=>?_⟩
 · have h3:=h0.1 h1
   have h4:((jP n||n.1==5)&&n.2.1==(p:Int))=true:=by
    have:(jP n||n.1==5)=true:=by rcases h1 with h1|h1<;>simp [h1]
    rw [this];simp;omega
   rw [h4] at h
   simp at h
 · have h3:=h0.2 h1
   have h4:(jP n&&n.2.2.1==(p:Int))=true:=by
    rw [h1];simp;omega
   rw [h4] at h
   simp at h
theorem adv {p:Nat} {n:bH} (h:n.1=5∨jP n=true) (h0:0≤n.2.1) (e:n.2.1.toNat=p):1≤refsOf p n:=by
 unfold refsOf
 have h4:((jP n||n.1==5)&&n.2.1==(p:Int))=true:=by
  have:(jP n||n.1==5)=true:=by rcases h with h1|h1<;>simp [h1]
  rw [this];simp;omega
 rw [h4];simp
theorem aoa {p:Nat} {n:bH} (h:jP n=true) (h0:0≤n.2.2.1) (e:n.2.2.1.toNat=p):1≤refsOf p n:=by
 unfold refsOf
 have h4:(jP n&&n.2.2.1==(p:Int))=true:=by rw [h];simp;omega
 rw [h4];simp
theorem UQ {l:List (Bool×Unit)} {k p:Nat} {x:Bool×Unit} (hk:k<l.length):(l.set k x).getD p (false,())=if k=p then x else l.getD p (false,()):=by
 rw [List.getD_eq_getElem?_getD,List.getElem?_set]
 by_cases h:k=p
 · subst h;simp [hk]
 · simp [h]
theorem aqv {q:List bH} (h:bQ q=true) {i:Nat} (hi:i<q.length):
 ((nodeAt q i).1=5→CQ q (nodeAt q i).2.1.toNat=true)∧(jP (nodeAt q i)=true→CQ q (nodeAt q i).2.1.toNat=CQ q i∧CQ q (nodeAt q i).2.2.1.toNat=CQ q i):=by
 have hn:negated q=jh q q.length (List.replicate q.length (false,())):=by unfold negated;rw [h];rfl
 obtain ⟨mid,hm1,hm2⟩:=VA q (q.length-(i+1)) (i+1) (List.replicate q.length (false,()))
 rw [show i+1+(q.length-(i+1))=q.length by omega,← hn] at hm2
 have hml:mid.length=q.length:=by rw [hm1];simp
 have hm3:negated q=jh q i (kQ q i mid):=hm2
 obtain ⟨k1,k2⟩:=MZ h hi
 have keep:∀ p,p<i→1≤refsOf p (nodeAt q i)→CQ q p=((kQ q i mid).getD p (false,())).1:=fun p hp hr=>by
  unfold CQ
  rw [hm3,HY i]
  intro j hj
  have hjl:j<q.length:=by omega
  obtain ⟨g1,g2⟩:=MZ h hjl
  exact aoN (aqu h hi hjl (by omega) hp hr) ⟨fun z=>(g1 z).1,fun z=>(g2 z).1⟩
 have self:CQ q i=(mid.getD i (false,())).1:=by
  unfold CQ
  rw [hm2,HY (i+1)]
  intro j hj
  obtain ⟨g1,g2⟩:=MZ h (show j<q.length by omega)
  exact ⟨fun z=>by have:=(g1 z).2;omega,fun z=>by have:=(g2 z).2;omega⟩
 refine ⟨fun h5=>?_,fun h2=>?_⟩
 · obtain ⟨a,b⟩:=k1 (.inl h5)
   rw [keep _ b (adv (.inl h5) a rfl)]
   unfold kQ
   dsimp only
   rw [beq_iff_eq.2 h5]
   show ((mid.set _ (true,())).getD _ (false,())).1=true
   rw [UQ (by omega),if_pos rfl]
 · obtain ⟨a,b⟩:=k1 (.inr h2)
   obtain ⟨a',b'⟩:=k2 h2
   have h5:((nodeAt q i).1==5)=false:=by
    rcases Ad.1 h2 with e|e<;>rw [e]<;>rfl
   rw [keep _ b (adv (.inr h2) a rfl),keep _ b' (aoa h2 a' rfl),self]
   unfold kQ
   dsimp only
   rw [h5,h2]
   show (((mid.set _ ((mid.getD i (false,())).1,())).set _ ((mid.getD i (false,())).1,())).getD _ (false,())).1=_∧(((mid.set _ ((mid.getD i (false,())).1,())).set _ ((mid.getD i (false,())).1,())).getD _ (false,())).1=_
   rw [UQ (by rw [List.length_set];omega),UQ (by omega),UQ (by rw [List.length_set];omega),if_pos rfl,if_pos rfl]
   exact ⟨by split<;>rfl,rfl⟩
theorem aqw {q:List bH} (h:bQ q=true):CQ q (q.length-1)=false:=by
 have hn:negated q=jh q q.length (List.replicate q.length (false,())):=by unfold negated;rw [h];rfl
 have hl:=Fv h
 unfold CQ
 rw [hn,HY q.length]
 · rw [List.getD_eq_getElem?_getD,List.getElem?_replicate];split<;>rfl
 · intro j hj
   obtain ⟨g1,g2⟩:=MZ h hj
   exact ⟨fun z=>by have:=(g1 z).2;omega,fun z=>by have:=(g2 z).2;omega⟩
theorem aob {q:List bH} (h:bQ q=true) {i:Nat} (hi:i<q.length) (hd:jG (nodeAt q i)=true):(nodeAt q i).2.2.2.1∈fE q (CQ q i):=by
 have hl:(negated q).length=q.length:=by unfold negated;rw [h];show (jh _ _ _).length=_;rw [FB];simp
 unfold fE
 rw [List.mem_filterMap]
 refine ⟨i,List.mem_range.2 (by omega),?_⟩
 unfold CQ
 rw [hd];simp
theorem asG {q:List bH} {f:aN} {X Y:BX} (h:bQ q=true) (hp:∀ s∈fE q false,∀ x,X s x=true→Y s x=true) (hn:∀ s∈fE q true,∀ x,X s x=Y s x):
 ∀ a,a<q.length→(CQ q a=false→val q f X a=true→val q f Y a=true)∧(CQ q a=true→val q f X a=val q f Y a):=by
 intro a
 induction a using Nat.strongRecOn with
 |_ a ih=>
  intro ha
  obtain ⟨k1,k2⟩:=MZ h ha
  obtain ⟨n1,n2⟩:=aqv h ha
  rw [Jy q f X a,Jy q f Y a]
  by_cases h5:(nodeAt q a).1=5
  · have hk:=k1 (.inl h5)
    have i1:=(ih _ hk.2 (by omega)).2 (n1 h5)
    rw [if_pos h5,if_pos h5,dif_pos hk.2,dif_pos hk.2,i1]
    exact ⟨fun _=>id,fun _=>rfl⟩
  rw [if_neg h5,if_neg h5]
  by_cases h6:(nodeAt q a).1=6
  · have h2:jP (nodeAt q a)=true:=Ad.2 (.inl h6)
    have hk:=k1 (.inr h2)
    have hk':=k2 h2
    have i1:=ih _ hk.2 (by omega)
    have i2:=ih _ hk'.2 (by omega)
    rw [(n2 h2).1] at i1
    rw [(n2 h2).2] at i2
    rw [if_pos h6,if_pos h6,dif_pos ⟨hk.2,hk'.2⟩,dif_pos ⟨hk.2,hk'.2⟩]
    refine ⟨fun hf hv=>?_,fun ht=>by rw [i1.2 ht,i2.2 ht]⟩
    rw [Bool.and_eq_true] at hv ⊢
    exact ⟨i1.1 hf hv.1,i2.1 hf hv.2⟩
  rw [if_neg h6,if_neg h6]
  by_cases h7:(nodeAt q a).1=7
  · have h2:jP (nodeAt q a)=true:=Ad.2 (.inr h7)
    have hk:=k1 (.inr h2)
    have hk':=k2 h2
    have i1:=ih _ hk.2 (by omega)
    have i2:=ih _ hk'.2 (by omega)
    rw [(n2 h2).1] at i1
    rw [(n2 h2).2] at i2
    rw [if_pos h7,if_pos h7,dif_pos ⟨hk.2,hk'.2⟩,dif_pos ⟨hk.2,hk'.2⟩]
    refine ⟨fun hf hv=>?_,fun ht=>by rw [i1.2 ht,i2.2 ht]⟩
    rw [Bool.or_eq_true] at hv ⊢
    exact hv.imp (i1.1 hf) (i2.1 hf)
  rw [if_neg h7,if_neg h7]
  by_cases h8:(nodeAt q a).1=8
  · have hm:=aob h ha (by unfold jG;simp [h8])
    unfold iP
    simp only [h8]
    refine ⟨fun hf hv=>?_,fun ht=>?_⟩
    · rw [hf] at hm;exact hp _ hm _ hv
    · rw [ht] at hm;exact hn _ hm _
  by_cases h9:(nodeAt q a).1=9
  · have hm:=aob h ha (by unfold jG;simp [h9])
    unfold iP
    simp only [h9]
    refine ⟨fun hf hv=>?_,fun ht=>?_⟩
    · rw [hf] at hm
      have hv:(!((f.2.2.2.1==0))&&X (nodeAt q a).2.2.2.1 f.2.2.2.1)=true:=hv
      rw [Bool.and_eq_true] at hv
      show (!((f.2.2.2.1==0))&&Y (nodeAt q a).2.2.2.1 f.2.2.2.1)=true
      rw [Bool.and_eq_true]
      exact ⟨hv.1,hp _ hm _ hv.2⟩
    · rw [ht] at hm
      show (!((f.2.2.2.1==0))&&X (nodeAt q a).2.2.2.1 f.2.2.2.1)=(!((f.2.2.2.1==0))&&Y (nodeAt q a).2.2.2.1 f.2.2.2.1)
      rw [hn _ hm]
  · have:iP (nodeAt q a) f X=iP (nodeAt q a) f Y:=by
     unfold iP
     rw [beq_eq_false_iff_ne.2 h8,beq_eq_false_iff_ne.2 h9];rfl
    rw [this]
    exact ⟨fun _=>id,fun _=>rfl⟩
theorem NG {q:List bH} {f:aN} {X Y:BX} (hp:∀ s∈fE q false,∀ x,X s x=true→Y s x=true) (hn:∀ s∈fE q true,∀ x,X s x=Y s x) (hm:iM q f X=true):iM q f Y=true:=by
 unfold iM at hm ⊢
 rw [Bool.and_eq_true] at hm ⊢
 have hl:=Fv hm.1
 exact ⟨hm.1,(asG hm.1 hp hn _ (by omega)).1 (aqw hm.1) hm.2⟩
theorem ako {fs:List aN} {q:List bH} {X:BX} {x:Int}:(x,())∈sel fs q X↔∃ f∈fs,f.1=x∧iM q f X=true:=by
 unfold sel
 rw [List.mem_map]
 constructor
 · rintro ⟨f,hf,e⟩
   rw [List.mem_filter] at hf
   exact ⟨f,hf.1,congrArg Prod.fst e,hf.2⟩
 · rintro ⟨f,hf,rfl,hm⟩
   exact ⟨f,List.mem_filter.2 ⟨hf,hm⟩,rfl⟩
theorem ZQ {fs:List aN} {q:List bH} {X Y:BX} (h:∀ b,∀ s∈fE q b,∀ x,X s x=Y s x):sel fs q X=sel fs q Y:=by
 unfold sel
 congr 1
 apply List.filter_congr
 intro f _
 rw [Bool.eq_iff_iff]
 exact ⟨NG (fun s hs x hx=>by rw [← h false s hs x];exact hx) (fun s hs x=>h true s hs x),NG (fun s hs x hx=>by rw [h false s hs x];exact hx) (fun s hs x=>(h true s hs x).symm)⟩
def O3 (fs:List aN) (d:List aQ):Sys Bytes Int where
 T:=fun s X x=>∃ i,i<d.length∧(dV d i).1=s∧(x,())∈sel fs (dV d i).2.1 X
 pos:=fun s t=>∃ i,i<d.length∧(dV d i).1=s∧t∈fE (dV d i).2.1 false
 neg:=fun s t=>∃ i,i<d.length∧(dV d i).1=s∧t∈fE (dV d i).2.1 true
 mono:=fun s X Y hp hn x ⟨i,hi,e,hx⟩=>⟨i,hi,e,by
  obtain ⟨f,hf,e2,hm⟩:=ako.1 hx
  exact ako.2 ⟨f,hf,e2,NG (fun t ht=>hp t ⟨i,hi,e,ht⟩) (fun t ht=>hn t ⟨i,hi,e,ht⟩) hm⟩⟩
end Sp
namespace Go.Fw
open Go
end Go.Fw
namespace Go.Fw
open Go
theorem dh {p:Prop} [Decidable p] {A B:Prop} (h:p) (a:A):cond (decide p) A B:=by rw [decide_eq_true h];exact a
theorem dm {p:Prop} [Decidable p] {A B:Prop} (h:¬ p) (b:B):cond (decide p) A B:=by rw [decide_eq_false h];exact b
theorem iU {B:((Int×Unit)×Unit→Prop)→((Int×Unit)×Unit→Nat)→(Int×Unit)×Unit→Prop} (len:Nat) (hlen:len≤9223372036854775807) (J:Nat→Prop) (h0:J 0)
 (hstep:∀ I μ (n:Nat),n<len→J n→(J (n+1)→I ((IntKind.i64.wrap ((n:Int)+1),()),())∧μ ((IntKind.i64.wrap ((n:Int)+1),()),())<μ (((n:Int),()),()))→B I μ (((n:Int),()),()))
 (hend:∀ I μ,J len→B I μ (((len:Int),()),())):∃ I,∃ μ,I (((0:Int),()),())∧∀ y,I y→B I μ y:=by
 refine ⟨fun y=>∃ n:Nat,y.1.1=n∧n≤len∧J n,fun y=>((len:Int)-y.1.1).toNat,⟨0,rfl,Nat.zero_le _,h0⟩,?_⟩
 rintro ⟨⟨_,⟨⟩⟩,⟨⟩⟩ ⟨n,rfl,hn,hJ⟩
 rcases Nat.lt_or_ge n len with h|h
 · refine hstep _ _ n h hJ fun hJ'=>?_
   have e:IntKind.i64.wrap ((n:Int)+1)=((n+1:Nat):Int):=fO _ (by omega)
   rw [e]
   exact ⟨⟨n+1,rfl,h,hJ'⟩,by show ((len:Int)-(n+1:Nat)).toNat<((len:Int)-n).toNat;omega⟩
 · have:n=len:=by omega
   subst this
   exact hend _ _ hJ
theorem dI {Y S:Type} (mk:Int→S→Y) (idx:Y→Int) (hidx:∀ i s,idx (mk i s)=i) {B:(Y→Prop)→(Y→Nat)→Y→Prop} (len:Nat) (hlen:len≤9223372036854775807) (J:Nat→S→Prop) {s0:S} (h0:J 0 s0)
 (hstep:∀ I μ (n:Nat) (s:S),n<len→J n s→(∀ s',J (n+1) s'→I (mk (IntKind.i64.wrap ((n:Int)+1)) s')∧μ (mk (IntKind.i64.wrap ((n:Int)+1)) s')<μ (mk n s))→B I μ (mk n s))
 (hend:∀ I μ s,J len s→B I μ (mk len s)):∃ I,∃ μ,I (mk 0 s0)∧∀ y,I y→B I μ y:=by
 refine ⟨fun y=>∃ (n:Nat) (s:S),y=mk n s∧n≤len∧J n s,fun y=>((len:Int)-idx y).toNat,⟨0,s0,rfl,Nat.zero_le _,h0⟩,?_⟩
 rintro _ ⟨n,s,rfl,hn,hJ⟩
 rcases Nat.lt_or_ge n len with h|h
 · refine hstep _ _ n s h hJ fun s' hJ'=>?_
   have e:IntKind.i64.wrap ((n:Int)+1)=((n+1:Nat):Int):=fO _ (by omega)
   rw [e]
   refine ⟨⟨n+1,s',rfl,h,hJ'⟩,?_⟩
   show ((len:Int)-idx (mk (n+1:Nat) s')).toNat<((len:Int)-idx (mk n s)).toNat
   rw [hidx,hidx]
   omega
 · have:n=len:=by omega
   subst this
   exact hend _ _ s hJ
theorem Di {len:Nat} {f:Nat→Bool} {n:Nat} (hn:n<len) (h:f n=false):Sp.jO len f=false:=by
 unfold Sp.jO
 rw [List.all_eq_false]
 exact ⟨n,List.mem_range.2 hn,by rw [h];simp⟩
theorem qm {len:Nat} {f:Nat→Bool} (h:∀ i,i<len→f i=true):Sp.jO len f=true:=by
 unfold Sp.jO
 rw [List.all_eq_true]
 exact fun i hi=>h i (List.mem_range.1 hi)
theorem adr {len:Nat} {f:Nat→Bool}:Sp.jO len f=true↔∀ i,i<len→f i=true:=by
 unfold Sp.jO
 rw [List.all_eq_true]
 exact ⟨fun h i hi=>h i (List.mem_range.2 hi),fun h i hi=>h i (List.mem_range.1 hi)⟩
theorem fB {n:Nat} {f:Nat→Bool} (h:∀ i,i<n→f i=true) (hn:f n=true):∀ i,i<n+1→f i=true:=fun i hi=>by
 rcases Nat.lt_or_ge i n with h'|h'
 · exact h i h'
 · have:i=n:=by omega
   rw [this];exact hn
theorem fV {b:Bool} (h:(!b)=true):b=false:=by cases b<;>first|rfl|cases h
theorem dO {b:Bool} (h:(!b)=false):b=true:=by cases b<;>first|rfl|cases h
theorem gm {p:Prop} [Decidable p] (h:decide p=true):p:=of_decide_eq_true h
theorem gU {p:Prop} [Decidable p] (h:decide p=false):¬ p:=of_decide_eq_false h
theorem yO {n:Nat} (h:0<n) (hn:n≤9223372036854775807):IntKind.i64.wrap ((n:Int)-1)=((n-1:Nat):Int):=by rw [fO _ (by omega)];omega
theorem Nb {α:Type} {d:α} {a b:List α} (hl:a.length=b.length) (h:∀ i,i<a.length→a.getD i d=b.getD i d):a=b:=by
 refine List.ext_getElem hl fun i h1 h2=>?_
 have:=h i h1
 rw [List.getD_eq_getElem?_getD,List.getD_eq_getElem?_getD,List.getElem?_eq_getElem h1,List.getElem?_eq_getElem h2] at this
 simpa using this
theorem Ru {α β:Type} (e:α→α→Bool) (he:∀ x y,e x y=false↔x=y) (d:α) (a b:List α) (t:β) (hlen:a.length≤9223372036854775807) (hl:a.length=b.length) {K:Bool×Unit→Prop} (hF:a≠b→K (false,())) (hT:a=b→K (true,())):
 ∃ (I:(Int×Unit)×Unit→Prop),∃ (μ:(Int×Unit)×Unit→Nat),I (((0:Int),()),())∧∀ (y:(Int×Unit)×Unit),I y→
   bif decide (y.fst.fst<(a.length:Int)) then
    ((0:Int)≤y.fst.fst∧y.fst.fst<(a.length:Int))∧((0:Int)≤y.fst.fst∧y.fst.fst<(b.length:Int))∧
      (bif e (a.getD (Int.toNat y.fst.fst) d) (b.getD (Int.toNat y.fst.fst) d) then K (false,())
      else t=t∧I ((IntKind.i64.wrap (y.fst.fst+(1:Int)),()),())∧μ ((IntKind.i64.wrap (y.fst.fst+(1:Int)),()),())<μ y)
   else K (true,()):=by
 refine iU a.length hlen (fun n=>∀ i,i<n→a.getD i d=b.getD i d) (fun i hi=>by omega) (fun I μ n hn hJ next=>?_) fun I μ hJ=>(by dsimp only;exact dm (by omega) (hT (Nb hl hJ)))
 dsimp only
 refine dh (by omega) ⟨⟨by omega,by omega⟩,⟨by omega,by omega⟩,af (fun h=>hF fun h'=>?_) fun h=>⟨rfl,next fun i hi=>?_⟩⟩
 · subst h'
   have:=(he (a.getD n d) (a.getD n d)).2 rfl
   have h:e (a.getD n d) (a.getD n d)=true:=h
   rw [this] at h;cases h
 · rcases Nat.lt_or_ge i n with h'|h'
   · exact hJ i h'
   · have:i=n:=by omega
     rw [this];exact (he _ _).1 h
theorem aex {α β:Type} (e:α→α→Bool) (he:∀ x y,e x y=false↔x=y) (d:α) (a b:List α) (t:β) (hlen:a.length≤9223372036854775807) (hl:a.length=b.length) {K:Bool×Unit→Prop} (hF:a≠b→K (false,())) (hT:a=b→K (true,())):
 ∃ (I:(Int×Unit)×Unit→Prop),∃ (μ:(Int×Unit)×Unit→Nat),I (((0:Int),()),())∧∀ (y:(Int×Unit)×Unit),I y→
   bif decide (y.fst.fst<(a.length:Int)) then
    ((0:Int)≤y.fst.fst∧y.fst.fst<(a.length:Int))∧((0:Int)≤y.fst.fst∧y.fst.fst<(b.length:Int))∧True∧
      (bif e (a.getD (Int.toNat y.fst.fst) d) (b.getD (Int.toNat y.fst.fst) d) then K (false,())
      else t=t∧I ((IntKind.i64.wrap (y.fst.fst+(1:Int)),()),())∧μ ((IntKind.i64.wrap (y.fst.fst+(1:Int)),()),())<μ y)
   else K (true,()):=by
 refine iU a.length hlen (fun n=>∀ i,i<n→a.getD i d=b.getD i d) (fun i hi=>by omega) (fun I μ n hn hJ next=>?_) fun I μ hJ=>(by dsimp only;exact dm (by omega) (hT (Nb hl hJ)))
 dsimp only
 refine dh (by omega) ⟨⟨by omega,by omega⟩,⟨by omega,by omega⟩,trivial,af (fun h=>hF fun h'=>?_) fun h=>⟨rfl,next fun i hi=>?_⟩⟩
 · subst h'
   have:=(he (a.getD n d) (a.getD n d)).2 rfl
   have h:e (a.getD n d) (a.getD n d)=true:=h
   rw [this] at h;cases h
 · rcases Nat.lt_or_ge i n with h'|h'
   · exact hJ i h'
   · have:i=n:=by omega
     rw [this];exact (he _ _).1 h
end Go.Fw
namespace Sp
open Go Go.Fw
theorem YP {name:Bytes}:∀ (s:List gK) (n:Nat),n<s.length→(∀ i,i<n→(s.getD i ([],0,())).1≠name)→(s.getD n ([],0,())).1=name→kindOf s name=(s.getD n ([],0,())).2.1
 |[],n,h,_,_=>by simp at h
 |f::r,0,_,_,he=>by
  have he:f.1=name:=he
  show (bif decide (f.1=name) then f.2.1 else kindOf r name)=f.2.1
  rw [decide_eq_true he];rfl
 |f::r,n+1,h,hne,he=>by
  have h0:f.1≠name:=hne 0 (by omega)
  show (bif decide (f.1=name) then f.2.1 else kindOf r name)=_
  rw [decide_eq_false h0]
  exact YP r n (by simpa using h) (fun i hi=>hne (i+1) (by omega)) he
theorem PD {name:Bytes}:∀ (s:List gK),(∀ i,i<s.length→(s.getD i ([],0,())).1≠name)→kindOf s name=0
 |[],_=>rfl
 |f::r,hne=>by
  have h0:f.1≠name:=hne 0 (by simp)
  show (bif decide (f.1=name) then f.2.1 else kindOf r name)=_
  rw [decide_eq_false h0]
  exact PD r fun i hi=>hne (i+1) (by simp;omega)
theorem ZR {id:Int}:∀ (s:List aN) (k:Int) (n:Nat),n<s.length→(∀ i,i<n→(fileAt s i).1≠id)→(fileAt s n).1=id→BO k s id=k+n
 |[],_,n,h,_,_=>by simp at h
 |f::r,k,0,_,_,he=>by
  have he:f.1=id:=he
  show (bif decide (f.1=id) then k else BO (k+1) r id)=_
  rw [decide_eq_true he];simp
 |f::r,k,n+1,h,hne,he=>by
  have h0:f.1≠id:=hne 0 (by omega)
  show (bif decide (f.1=id) then k else BO (k+1) r id)=_
  rw [decide_eq_false h0]
  show BO (k+1) r id=_
  rw [ZR r (k+1) n (by simpa using h) (fun i hi=>hne (i+1) (by omega)) he]
  omega
theorem RV {id:Int}:∀ (s:List aN) (k:Int),(∀ i,i<s.length→(fileAt s i).1≠id)→BO k s id=-1
 |[],_,_=>rfl
 |f::r,k,hne=>by
  have h0:f.1≠id:=hne 0 (by simp)
  show (bif decide (f.1=id) then k else BO (k+1) r id)=_
  rw [decide_eq_false h0]
  exact RV r (k+1) fun i hi=>hne (i+1) (by simp;omega)
theorem IE {id:Int} {s:List aN} {n:Nat} (h:n<s.length) (hne:∀ i,i<n→(fileAt s i).1≠id) (he:(fileAt s n).1=id):place s id=n:=by
 unfold place
 rw [ZR s 0 n h hne he];omega
theorem TR {id:Int} {s:List aN} (hne:∀ i,i<s.length→(fileAt s i).1≠id):place s id=-1:=RV s 0 hne
theorem sG (s:List aN) (id:Int):(place s id=-1∧∀ i,i<s.length→(fileAt s i).1≠id)∨∃ n,n<s.length∧place s id=n∧(fileAt s n).1=id∧∀ i,i<n→(fileAt s i).1≠id:=by
 by_cases h:∃ n,n<s.length∧(fileAt s n).1=id
 · obtain ⟨n,h1,h2,h3⟩:=(least s.length (p:=fun n=>(fileAt s n).1=id) h)
   exact .inr ⟨n,h1,IE h1 (fun i hi=>h3 i hi) h2,h2,fun i hi=>h3 i hi⟩
 · have hne:∀ i,i<s.length→(fileAt s i).1≠id:=fun i hi e=>h ⟨i,hi,e⟩
   exact .inl ⟨TR hne,hne⟩
theorem adn {s:List gK} {n:Nat} (h:n<s.length) (hn:lK s n=false):fQ s=false:=by
 unfold fQ;rw [Di h hn];rfl
theorem aqx {fs:List gK} {s:List fH} {n:Nat} (h:n<s.length) (hn:kE fs s n=false):kP fs s=false:=Di h hn
theorem aly {fs:List gK} {f:aN} {n:Nat} (h:n<f.2.2.2.2.1.length) (hn:kE fs f.2.2.2.2.1 n=false):bY fs f=false:=by
 unfold bY;rw [aqx h hn];rfl
theorem ag2 {s:bV} {n:Nat} (h:n<s.2.1.length) (hn:kX s n=false):aB s=false:=by
 unfold aB;rw [Di h hn];rfl
theorem nK {s:bV} {i:Nat}:kX s i=true↔bY s.1 (fileAt s.2.1 i)=true∧(fileAt s.2.1 i).1<s.2.2.1∧(0<i→(fileAt s.2.1 (i-1)).1<(fileAt s.2.1 i).1):=by
 unfold kX
 rw [Bool.and_eq_true,Bool.and_eq_true,decide_eq_true_eq,and_assoc]
 refine and_congr_right fun _=>and_congr_right fun _=>?_
 by_cases h:0<i
 · simp [h]
 · simp [h]
theorem jL {s:bV}:aB s=true↔(∀ i,i<s.2.1.length→kX s i=true)∧fQ s.1=true∧s.2.1.length≤12∧1≤s.2.2.1∧s.2.2.1≤61:=by
 unfold aB
 rw [Bool.and_eq_true,Bool.and_eq_true,Bool.and_eq_true,Bool.and_eq_true,decide_eq_true_eq,decide_eq_true_eq,decide_eq_true_eq,adr]
 constructor
 · rintro ⟨⟨⟨h1,h2⟩,h3⟩,h4,h5⟩;exact ⟨h1,h2,by omega,h4,h5⟩
 · rintro ⟨h1,h2,h3,h4,h5⟩;exact ⟨⟨⟨h1,h2⟩,by omega⟩,h4,h5⟩
theorem arK {fs:List gK} {f:aN} (h:bY fs f=true):1≤f.1∧f.1≤60:=by
 unfold bY at h
 simp only [Bool.and_eq_true,decide_eq_true_eq] at h
 exact h.1.1.2
theorem Qg {fs:List aN} {g:aN} {i:Nat} (h:i<fs.length):fileAt (fs++[g]) i=fileAt fs i:=by
 unfold fileAt
 rw [List.getD_eq_getElem?_getD,List.getElem?_append_left h,← List.getD_eq_getElem?_getD]
theorem aoO {fs:List aN} {g:aN}:fileAt (fs++[g]) fs.length=g:=by
 unfold fileAt
 rw [List.getD_eq_getElem?_getD,List.getElem?_append_right (Nat.le_refl _)];simp
theorem aoc {s:bV} {g:aN} (h:aB s=true) (hl:s.2.1.length<12) (hg:bY s.1 g=true) (hid:g.1=s.2.2.1):aB (s.1,s.2.1++[g],s.2.2.1+1,())=true:=by
 obtain ⟨h1,h2,h3,h4,h5⟩:=jL.1 h
 have hg1:=arK hg
 refine jL.2 ⟨fun i hi=>?_,h2,by show (s.2.1++[g]).length≤12;simp;omega,by show 1≤s.2.2.1+1;omega,by show s.2.2.1+1≤61;omega⟩
 have hi:i<(s.2.1++[g]).length:=hi
 rw [List.length_append,List.length_cons,List.length_nil] at hi
 refine nK.2 ?_
 show bY s.1 (fileAt (s.2.1++[g]) i)=true∧(fileAt (s.2.1++[g]) i).1<s.2.2.1+1∧(0<i→(fileAt (s.2.1++[g]) (i-1)).1<(fileAt (s.2.1++[g]) i).1)
 rcases Nat.lt_or_ge i s.2.1.length with hlt|hge
 · obtain ⟨k1,k2,k3⟩:=nK.1 (h1 i hlt)
   rw [Qg hlt]
   refine ⟨k1,by omega,fun h0=>?_⟩
   rw [Qg (by omega)]
   exact k3 h0
 · have e:i=s.2.1.length:=by omega
   subst e
   rw [aoO]
   refine ⟨hg,by omega,fun h0=>?_⟩
   rw [Qg (by omega)]
   have:=(nK.1 (h1 (s.2.1.length-1) (by omega))).2.1
   omega
theorem kY (s:bV) (f:aN):(aH s f=(s,0,false)∧¬ (aB s=true∧s.2.1.length<12∧bY s.1 (s.2.2.1,f.2)=true))∨
 (aB s=true∧s.2.1.length<12∧bY s.1 (s.2.2.1,f.2)=true∧aH s f=((s.1,s.2.1++[(s.2.2.1,f.2)],s.2.2.1+1,()),s.2.2.1,true)):=by
 by_cases h:aB s=true∧s.2.1.length<12∧bY s.1 (s.2.2.1,f.2)=true
 · right
   refine ⟨h.1,h.2.1,h.2.2,?_⟩
   unfold aH
   dsimp only
   rw [h.1,h.2.2,decide_eq_true (by omega)];rfl
 · left
   refine ⟨?_,h⟩
   have:(aB s&&decide ((s.2.1.length:Int)<12)&&bY s.1 (s.2.2.1,f.2))=false:=by
    cases hb:(aB s&&decide ((s.2.1.length:Int)<12)&&bY s.1 (s.2.2.1,f.2)) with
    |false=>rfl
    |true=>
     simp only [Bool.and_eq_true,decide_eq_true_eq] at hb
     exact (h ⟨hb.1.1,by omega,hb.2⟩).elim
   unfold aH
   dsimp only
   rw [this];rfl
theorem II {s:bV} (f:aN) (h:aB s=true):aB (aH s f).1=true:=by
 rcases kY s f with ⟨e,_⟩|⟨h1,h2,h3,e⟩
 · rw [e];exact h
 · rw [e];exact aoc h1 h2 h3 rfl
theorem JQ {s:bV} {f:aN} (h:bI s) (hf:bU f):bI (aH s f).1:=by
 rcases kY s f with ⟨e,_⟩|⟨h1,h2,h3,e⟩
 · rw [e];exact h
 · rw [e]
   refine ⟨h.1,by show (s.2.1++[(s.2.2.1,f.2)]).length≤1000;simp;omega,fun g hg=>?_⟩
   have hg:g∈s.2.1++[(s.2.2.1,f.2)]:=hg
   rcases List.mem_append.1 hg with hg|hg
   · exact h.2.2 g hg
   · have:g=(s.2.2.1,f.2):=by simpa using hg
     subst this;exact hf
theorem qQ (s:bV) (id:Int):(aT s id=(s,false)∧¬ (aB s=true∧0≤place s.2.1 id))∨
 ∃ n,n<s.2.1.length∧place s.2.1 id=n∧aB s=true∧aT s id=((s.1,s.2.1.eraseIdx n,s.2.2.1,()),true):=by
 rcases sG s.2.1 id with ⟨h,_⟩|⟨n,hn,h,_,_⟩
 · left
   refine ⟨?_,fun h'=>by omega⟩
   unfold aT
   rw [h];simp
 · cases ho:aB s with
   |false=>
    left
    refine ⟨?_,fun h'=>by cases h'.1⟩
    unfold aT
    rw [ho];rfl
   |true=>
    right
    refine ⟨n,hn,h,rfl,?_⟩
    unfold aT
    rw [ho,h,decide_eq_false (by omega),Int.toNat_natCast];rfl
theorem ZT {fs:List aN} {n i:Nat}:fileAt (fs.eraseIdx n) i=if i<n then fileAt fs i else fileAt fs (i+1):=by
 unfold fileAt
 rw [List.getD_eq_getElem?_getD,List.getElem?_eraseIdx]
 split<;>rw [List.getD_eq_getElem?_getD]
theorem amk {s:bV} {n:Nat} (h:aB s=true) (hn:n<s.2.1.length):aB (s.1,s.2.1.eraseIdx n,s.2.2.1,())=true:=by
 obtain ⟨h1,h2,h3,h4,h5⟩:=jL.1 h
 have hlen:(s.2.1.eraseIdx n).length=s.2.1.length-1:=List.length_eraseIdx_of_lt hn
 refine jL.2 ⟨fun i hi=>?_,h2,by show (s.2.1.eraseIdx n).length≤12;omega,h4,h5⟩
 have hi:i<(s.2.1.eraseIdx n).length:=hi
 refine nK.2 ?_
 show bY s.1 (fileAt (s.2.1.eraseIdx n) i)=true∧(fileAt (s.2.1.eraseIdx n) i).1<s.2.2.1∧(0<i→(fileAt (s.2.1.eraseIdx n) (i-1)).1<(fileAt (s.2.1.eraseIdx n) i).1)
 rw [ZT,ZT]
 rcases Nat.lt_or_ge i n with hlt|hge
 · rw [if_pos hlt]
   obtain ⟨k1,k2,k3⟩:=nK.1 (h1 i (by omega))
   refine ⟨k1,k2,fun h0=>?_⟩
   rw [if_pos (by omega)]
   exact k3 h0
 · rw [if_neg (by omega)]
   obtain ⟨k1,k2,k3⟩:=nK.1 (h1 (i+1) (by omega))
   refine ⟨k1,k2,fun h0=>?_⟩
   have k3:=k3 (by omega)
   rw [Nat.add_sub_cancel] at k3
   split
   · have:=(nK.1 (h1 i (by omega))).2.2 h0
     omega
   · rw [show i-1+1=i by omega]
     exact k3
theorem IJ {s:bV} (id:Int) (h:aB s=true):aB (aT s id).1=true:=by
 rcases qQ s id with ⟨e,_⟩|⟨n,hn,_,ho,e⟩
 · rw [e];exact h
 · rw [e];exact amk ho hn
theorem JR {s:bV} (id:Int) (h:bI s):bI (aT s id).1:=by
 rcases qQ s id with ⟨e,_⟩|⟨n,hn,_,ho,e⟩
 · rw [e];exact h
 · rw [e]
   refine ⟨h.1,?_,fun g hg=>h.2.2 g (List.mem_of_mem_eraseIdx hg)⟩
   show (s.2.1.eraseIdx n).length≤1000
   have:=h.2.1
   rw [List.length_eraseIdx_of_lt hn];omega
theorem jU (s:bV) (f:aN):(aU s f=(s,false)∧¬ (aB s=true∧0≤place s.2.1 f.1∧bY s.1 f=true))∨
 ∃ n,n<s.2.1.length∧place s.2.1 f.1=n∧aB s=true∧bY s.1 f=true∧aU s f=((s.1,s.2.1.set n f,s.2.2.1,()),true):=by
 rcases sG s.2.1 f.1 with ⟨h,_⟩|⟨n,hn,h,_,_⟩
 · left
   refine ⟨?_,fun h'=>by omega⟩
   unfold aU
   rw [h];simp
 · cases ho:aB s with
   |false=>
    left
    refine ⟨?_,fun h'=>by cases h'.1⟩
    unfold aU
    rw [ho];rfl
   |true=>
    cases hf:bY s.1 f with
    |false=>
     left
     refine ⟨?_,fun h'=>by cases h'.2.2⟩
     unfold aU
     rw [hf,Bool.and_false];rfl
    |true=>
     right
     refine ⟨n,hn,h,rfl,rfl,?_⟩
     unfold aU
     rw [ho,hf,h,decide_eq_false (by omega),Int.toNat_natCast];rfl
theorem RN {s:bV} {f:aN} (h:bI s) (hf:bU f):bI (aU s f).1:=by
 rcases jU s f with ⟨e,_⟩|⟨n,hn,_,ho,_,e⟩
 · rw [e];exact h
 · rw [e]
   refine ⟨h.1,by show (s.2.1.set n f).length≤1000;rw [List.length_set];exact h.2.1,fun g hg=>?_⟩
   rcases List.mem_or_eq_of_mem_set hg with hg|rfl
   · exact h.2.2 g hg
   · exact hf
theorem aia {s:List aN} {f:aN} (h:f∈s):∃ i,i<s.length∧fileAt s i=f:=by
 obtain ⟨i,hi,rfl⟩:=List.getElem_of_mem h
 refine ⟨i,hi,?_⟩
 unfold fileAt
 rw [List.getD_eq_getElem?_getD,List.getElem?_eq_getElem hi];rfl
theorem aod {s:bV} (h:aB s=true):∀ (j i:Nat),i<j→j<s.2.1.length→(fileAt s.2.1 i).1<(fileAt s.2.1 j).1
 |0,i,hi,_=>by omega
 |j+1,i,hi,hj=>by
  have h1:=(nK.1 ((jL.1 h).1 (j+1) hj)).2.2 (by omega)
  rw [Nat.add_sub_cancel] at h1
  rcases Nat.lt_or_ge i j with h2|h2
  · have:=aod h j i h2 (by omega)
    omega
  · have:i=j:=by omega
    rw [this];exact h1
theorem apq {s:bV} (h:aB s=true) {f g:aN} (hf:f∈s.2.1) (hg:g∈s.2.1) (e:f.1=g.1):f=g:=by
 obtain ⟨i,hi,rfl⟩:=aia hf
 obtain ⟨j,hj,rfl⟩:=aia hg
 rcases Nat.lt_trichotomy i j with h1|h1|h1
 · have:=aod h j i h1 hj;omega
 · rw [h1]
 · have:=aod h i j h1 hi;omega
theorem Ho {α:Type} {p:α→Bool} {d:α}:∀ (l:List α) (n:Nat),n≤l.length→(∀ i,i<n→p (l.getD i d)=true)→(n<l.length→p (l.getD n d)=false)→l.takeWhile p=l.take n∧l.dropWhile p=l.drop n
 |[],n,h,_,_=>by simp
 |x::r,0,_,_,h=>by
  have h:p x=false:=h (by simp)
  constructor<;>simp [h]
 |x::r,n+1,hn,h1,h2=>by
  have h0:p x=true:=h1 0 (by omega)
  have:=Ho r n (by simpa using hn) (fun i hi=>h1 (i+1) (by omega)) fun hlt=>h2 (by simpa using hlt)
  constructor<;>simp [h0,this.1,this.2]
theorem aib {fs:List aN} {n i:Nat} {f:aN} (hn:n<fs.length):fileAt (fs.set n f) i=if n=i then f else fileAt fs i:=by
 unfold fileAt
 rw [List.getD_eq_getElem?_getD,List.getElem?_set,List.getD_eq_getElem?_getD]
 split
 · rfl
 · rfl
theorem aoP {s:bV} {n:Nat} {f:aN} (h:aB s=true) (hn:n<s.2.1.length) (hf:bY s.1 f=true) (he:(fileAt s.2.1 n).1=f.1):aB (s.1,s.2.1.set n f,s.2.2.1,())=true:=by
 obtain ⟨h1,h2,h3,h4,h5⟩:=jL.1 h
 have hid:∀ i,(fileAt (s.2.1.set n f) i).1=(fileAt s.2.1 i).1:=fun i=>by
  rw [aib hn]
  split
  · rename_i e;rw [← e,he]
  · rfl
 refine jL.2 ⟨fun i hi=>?_,h2,by show (s.2.1.set n f).length≤12;rw [List.length_set];exact h3,h4,h5⟩
 have hi:i<(s.2.1.set n f).length:=hi
 rw [List.length_set] at hi
 obtain ⟨k1,k2,k3⟩:=nK.1 (h1 i hi)
 refine nK.2 ?_
 show bY s.1 (fileAt (s.2.1.set n f) i)=true∧(fileAt (s.2.1.set n f) i).1<s.2.2.1∧(0<i→(fileAt (s.2.1.set n f) (i-1)).1<(fileAt (s.2.1.set n f) i).1)
 rw [hid,hid]
 refine ⟨?_,k2,k3⟩
 rw [aib hn]
 split
 · exact hf
 · exact k1
theorem OY {s:bV} (f:aN) (h:aB s=true):aB (aU s f).1=true:=by
 rcases jU s f with ⟨e,_⟩|⟨n,hn,hp,ho,hf,e⟩
 · rw [e];exact h
 · rw [e]
   refine aoP ho hn hf ?_
   rcases sG s.2.1 f.1 with ⟨h',_⟩|⟨m,hm,h',h2,_⟩
   · omega
   · rw [← h2,show n=m by omega]
end Sp
namespace Sp
open Go Go.Fw
theorem adw {α:Type} {p:α→Bool} {d:α}:∀ (s:List α) (k:Int) (n:Nat),n<s.length→(∀ i,i<n→p (s.getD i d)=false)→p (s.getD n d)=true→Ej p k s=k+n
 |[],_,n,h,_,_=>by simp at h
 |f::r,k,0,_,_,he=>by
  have he:p f=true:=he
  show (bif p f then k else Ej p (k+1) r)=_
  rw [he];simp
 |f::r,k,n+1,h,hne,he=>by
  have h0:p f=false:=hne 0 (by omega)
  show (bif p f then k else Ej p (k+1) r)=_
  rw [h0]
  show Ej p (k+1) r=_
  rw [adw r (k+1) n (by simpa using h) (fun i hi=>hne (i+1) (by omega)) he]
  omega
theorem VB {α:Type} {p:α→Bool} {d:α}:∀ (s:List α) (k:Int),(∀ i,i<s.length→p (s.getD i d)=false)→Ej p k s=-1
 |[],_,_=>rfl
 |f::r,k,hne=>by
  have h0:p f=false:=hne 0 (by simp)
  show (bif p f then k else Ej p (k+1) r)=_
  rw [h0]
  exact VB r (k+1) fun i hi=>hne (i+1) (by simp;omega)
theorem alG {α:Type} {p:α→Bool} {d:α} {s:List α} {n:Nat} (h:n<s.length) (hne:∀ i,i<n→p (s.getD i d)=false) (he:p (s.getD n d)=true):findAt p s=n:=by
 unfold findAt;rw [adw s 0 n h hne he];omega
theorem adx {α:Type} {p:α→Bool} {d:α} {s:List α} (hne:∀ i,i<s.length→p (s.getD i d)=false):findAt p s=-1:=VB s 0 hne
theorem ZU {α:Type} (p:α→Bool) (d:α) (s:List α):(findAt p s=-1∧∀ i,i<s.length→p (s.getD i d)=false)∨∃ n,n<s.length∧findAt p s=n∧p (s.getD n d)=true∧∀ i,i<n→p (s.getD i d)=false:=by
 by_cases h:∃ n,n<s.length∧p (s.getD n d)=true
 · obtain ⟨n,h1,h2,h3⟩:=least s.length (p:=fun n=>p (s.getD n d)=true) h
   have h3:∀ i,i<n→p (s.getD i d)=false:=fun i hi=>by simpa using h3 i hi
   exact .inr ⟨n,h1,alG h1 h3 h2,h2,h3⟩
 · have hne:∀ i,i<s.length→p (s.getD i d)=false:=fun i hi=>by
    cases hp:p (s.getD i d) with
    |false=>rfl
    |true=>exact (h ⟨i,hi,hp⟩).elim
   exact .inl ⟨adx hne,hne⟩
theorem ady:∀ a:Bytes,Op.bytesLess a a=false
 |[]=>rfl
 |x::a=>by
  show (decide (x<x)||(x==x&&Op.bytesLess a a))=false
  rw [ady a,decide_eq_false (UInt8.lt_irrefl x),Bool.and_false];rfl
theorem ahL:∀ a b:Bytes,Op.bytesLess a b=false→a≠b→Op.bytesLess b a=true
 |[],[],_,h=>(h rfl).elim
 |x::a,[],_,_=>rfl
 |[],y::b,h,_=>by cases h
 |x::a,y::b,h,hne=>by
  have h:(decide (x<y)||(x==y&&Op.bytesLess a b))=false:=h
  show (decide (y<x)||(y==x&&Op.bytesLess b a))=true
  rw [Bool.or_eq_false_iff,decide_eq_false_iff_not] at h
  by_cases e:x=y
  · subst e
    have h2:Op.bytesLess a b=false:=by simpa using h.2
    rw [ahL a b h2 (fun e=>hne (by rw [e]))]
    simp
  · have:y<x:=by
     have h1:¬ x.toNat<y.toNat:=fun hh=>h.1 (UInt8.lt_iff_toNat_lt.2 hh)
     have h2:x.toNat≠y.toNat:=fun hh=>e (UInt8.toNat_inj.1 hh)
     exact UInt8.lt_iff_toNat_lt.2 (by omega)
    rw [decide_eq_true this];rfl
theorem arL {x y:UInt8} {a b:Bytes}:Op.bytesLess (x::a) (y::b)=true↔x.toNat<y.toNat∨(x=y∧Op.bytesLess a b=true):=by
 show (decide (x<y)||(x==y&&Op.bytesLess a b))=true↔_
 rw [Bool.or_eq_true,decide_eq_true_eq,Bool.and_eq_true,beq_iff_eq,UInt8.lt_iff_toNat_lt]
theorem Le:∀ a b c:Bytes,Op.bytesLess a b=true→Op.bytesLess b c=true→Op.bytesLess a c=true
 |_,[],_,h,_=>by cases h':(‹Bytes›:Bytes)<;>simp_all [Op.bytesLess]
 |_,_::_,[],_,h=>by cases h
 |[],_::_,_::_,_,_=>rfl
 |x::a,y::b,z::c,h1,h2=>by
  rw [arL] at h1 h2 ⊢
  rcases h1 with h1|⟨rfl,h1⟩
  · rcases h2 with h2|⟨rfl,h2⟩
    · exact .inl (by omega)
    · exact .inl h1
  · rcases h2 with h2|⟨rfl,h2⟩
    · exact .inl h2
    · exact .inr ⟨rfl,Le a b c h1 h2⟩
theorem aa4 {a b:Bytes} (h:Op.bytesLess a b=true):a≠b:=fun e=>by rw [e,ady] at h;cases h
end Sp
namespace Sp
open Go
def nameOf (d:List aQ) (i:Nat):Bytes:=(dV d i).1
def dY (d:List aQ) (i:Nat):List bH:=(dV d i).2.1
def jr (r:List dn) (i:Nat):dn:=r.getD i ([],[],())
def eX (r:List dn) (i:Nat):List (Int×Unit):=(jr r i).2.1
def kU (d:List aQ) (aG:List (Int×Unit)):Prop:=
 aG.length=d.length∧(∀ i,i<d.length→0≤lv aG i∧lv aG i≤d.length)∧(jf (dX d) fun i=>(lv aG i).toNat)∧∀ M,jf (dX d) M→∀ i,i<d.length→lv aG i≤M i
theorem Y8 {d:List aQ} {a b:List (Int×Unit)} (h1:kU d a) (h2:kU d b):a=b:=by
 refine ars (h1.1.trans h2.1.symm) fun i hi=>?_
 have hi:i<d.length:=by rw [← h1.1];exact hi
 have a1:=h1.2.2.2 _ h2.2.2.1 i hi
 have a2:=h2.2.2.2 _ h1.2.2.1 i hi
 have:=(h1.2.1 i hi).1
 have:=(h2.2.1 i hi).1
 omega
theorem aqk {d:List aQ} (h:∃ M,jf (dX d) M∧∀ i,i<d.length→M i<d.length):∃ s,kU d s:=by
 have hE:=mr d
 have hmin:∀ i,∃ m,(∃ M,jf (dX d) M∧M i=m)∧∀ M,jf (dX d) M→m≤M i:=fun i=>by
  obtain ⟨M0,h0,_⟩:=h
  have:∀ n,(∃ M,jf (dX d) M∧M i=n)→∃ m,(∃ M,jf (dX d) M∧M i=m)∧∀ M,jf (dX d) M→m≤M i:=by
   intro n
   induction n using Nat.strongRecOn with
   |_ n ih=>
    intro hn
    by_cases hl:∃ M,jf (dX d) M∧M i<n
    · obtain ⟨M,h1,h2⟩:=hl
      exact ih _ h2 ⟨M,h1,rfl⟩
    · exact ⟨n,hn,fun M hM=>Nat.le_of_not_lt fun hlt=>hl ⟨M,hM,hlt⟩⟩
  exact this (M0 i) ⟨M0,h0,rfl⟩
 obtain ⟨L,hL⟩:=Classical.axiomOfChoice hmin
 have hfix:jf (dX d) L:=fun e he=>by
  obtain ⟨⟨M,h1,h2⟩,_⟩:=hL e.1
  have a:=(hL e.2.1).2 M h1
  have b:=h1 e he
  rw [← h2];omega
 have hlv:∀ i,i<d.length→lv ((List.range d.length).map fun i=>((L i:Int),())) i=L i:=fun i hi=>by
  unfold lv
  rw [List.getD_eq_getElem?_getD,List.getElem?_map,List.getElem?_range hi];rfl
 refine ⟨(List.range d.length).map fun i=>((L i:Int),()),by simp,fun i hi=>?_,fun e he=>?_,fun M hM i hi=>?_⟩
 · rw [hlv i hi]
   obtain ⟨M,h1,h2⟩:=h
   have:=(hL i).2 M h1
   have:=h2 i hi
   omega
 · obtain ⟨h1,h2,_⟩:=hE e he
   have:=hfix e he
   dsimp only
   rw [hlv _ h1,hlv _ h2]
   omega
 · rw [hlv i hi]
   have:=(hL i).2 M hM
   omega
def JY (d:List aQ) (aG:List (Int×Unit)) (s:Bytes):Nat:=(lv aG (aV d s).toNat).toNat
def due (d:List aQ) (nm:Bytes→Bool) (s:Bytes):Prop:=nm s=true∧∃ i,i<d.length∧nameOf d i=s
theorem arM {d:List aQ} (h:gB d=true) {i:Nat} (hi:i<d.length):bQ (dY d i)=true∧(0<i→Op.bytesLess (nameOf d (i-1)) (nameOf d i)=true):=by
 unfold gB at h
 rw [Bool.and_eq_true] at h
 have h1:oq d i=true:=by
  have:=h.1
  unfold jO at this
  exact List.all_eq_true.1 this i (List.mem_range.2 hi)
 unfold oq at h1
 rw [Bool.and_eq_true,Bool.and_eq_true] at h1
 refine ⟨h1.1.2,fun h0=>?_⟩
 have:=h1.2
 rw [decide_eq_true h0] at this
 simpa [nameOf] using this
theorem akp {d:List aQ} (h:gB d=true):∀ (j i:Nat),i<j→j<d.length→Op.bytesLess (nameOf d i) (nameOf d j)=true
 |0,i,hi,_=>by omega
 |j+1,i,hi,hj=>by
  have h1:=(arM h hj).2 (by omega)
  rcases Nat.lt_or_ge i j with h2|h2
  · exact Le _ _ _ (akp h j i h2 (by omega)) h1
  · have:i=j:=by omega
    subst this;exact h1
theorem Em {d:List aQ} (h:gB d=true) {i j:Nat} (hi:i<d.length) (hj:j<d.length) (e:nameOf d i=nameOf d j):i=j:=by
 rcases Nat.lt_trichotomy i j with h1|h1|h1
 · exact (aa4 (akp h j i h1 hj) e).elim
 · exact h1
 · exact (aa4 (akp h i j h1 hi) e.symm).elim
theorem UR {d:List aQ} (h:gB d=true) {i:Nat} (hi:i<d.length):aV d (nameOf d i)=i:=by
 rcases Ez d (nameOf d i) with ⟨_,h2⟩|⟨n,h1,h2,h3,_⟩
 · refine (h2 (dV d i) ?_ rfl).elim
   unfold dV
   rw [List.getD_eq_getElem?_getD,List.getElem?_eq_getElem hi]
   exact List.getElem_mem hi
 · rw [h2,Em h h1 hi h3]
theorem Ah {d:List aQ} (h:gB d=true) {aG:List (Int×Unit)} {i:Nat} (hi:i<d.length):JY d aG (nameOf d i)=(lv aG i).toNat:=by
 unfold JY;rw [UR h hi];rfl
theorem F5 {fs:List aN} {d:List aQ} (h:gB d=true) {aG:List (Int×Unit)} (hl:kU d aG) (nm:Bytes→Bool):amO (O3 fs d) (due d nm) (JY d aG):=by
 intro s t _ ht
 obtain ⟨_,j,hj,rfl⟩:=ht
 have edge:∀ i,i<d.length→∀ m b,(m=0∧b=false∨m=1∧b=true)→nameOf d j∈fE (dY d i) b→(lv aG j).toNat+m≤(lv aG i).toNat:=fun i hi m b hm hd=>by
  refine hl.2.2.1 (i,j,m) (Ef.2 ⟨hi,nameOf d j,?_,by rw [UR h hj];omega,by rw [UR h hj];rfl⟩)
  rcases hm with ⟨a,b⟩|⟨a,b⟩
  · subst a b;exact .inl ⟨rfl,hd⟩
  · subst a b;exact .inr ⟨rfl,hd⟩
 refine ⟨?_,?_⟩
 · rintro ⟨i,hi,rfl,hd⟩
   rw [show (dV d i).1=nameOf d i from rfl,Ah h hi,Ah h hj]
   exact edge i hi 0 false (.inl ⟨rfl,rfl⟩) hd
 · rintro ⟨i,hi,rfl,hd⟩
   rw [show (dV d i).1=nameOf d i from rfl,Ah h hi,Ah h hj]
   exact edge i hi 1 true (.inr ⟨rfl,rfl⟩) hd
def lM (d:List aQ) (out:List dn):Prop:=out.length=d.length∧∀ i,i<d.length→(jr out i).1=nameOf d i
theorem Jd:∀ {r:List dn} {s:Bytes},(∀ i,i<r.length→(jr r i).1≠s)→fM r s=[]
 |[],_,_=>rfl
 |x::r,s,h=>by
  have h0:x.1≠s:=h 0 (by simp)
  rw [fM,beq_eq_false_iff_ne.2 h0]
  exact Jd fun i hi=>h (i+1) (by simpa using hi)
theorem Y4:∀ {r:List dn} {i:Nat},i<r.length→(∀ j,j<i→(jr r j).1≠(jr r i).1)→fM r (jr r i).1=eX r i
 |[],i,h,_=>by simp at h
 |x::r,0,_,_=>by
  show fM (x::r) x.1=x.2.1
  rw [fM,beq_iff_eq.2 rfl];rfl
 |x::r,i+1,h,hn=>by
  have h0:x.1≠(jr r i).1:=hn 0 (by omega)
  show fM (x::r) (jr r i).1=eX r i
  rw [fM,beq_eq_false_iff_ne.2 h0]
  exact Y4 (by simpa using h) fun j hj=>hn (j+1) (by omega)
theorem vC {d:List aQ} (h:gB d=true) {out:List dn} (ho:lM d out) {i:Nat} (hi:i<d.length):fM out (nameOf d i)=eX out i:=by
 rw [← ho.2 i hi]
 refine Y4 (by rw [ho.1];exact hi) fun j hj e=>?_
 rw [ho.2 j (by omega),ho.2 i hi] at e
 have:=Em h (by omega) hi e
 omega
theorem JC {d:List aQ} {out:List dn} (ho:lM d out) {s:Bytes} (hs:∀ i,i<d.length→nameOf d i≠s):fM out s=[]:=
 Jd fun i hi=>by rw [ho.1] at hi;rw [ho.2 i hi];exact hs i hi
structure gQ (fs:List aN) (d:List aQ) (r:List dn) (nm:Bytes→Bool) (out:List dn):Prop where
 order:lM d out
 kept:∀ i,i<d.length→nm (nameOf d i)=false→eX out i=fM r (nameOf d i)
 fix:∀ i,i<d.length→nm (nameOf d i)=true→eX out i=sel fs (dY d i) (bC out)
 aG:∃ aG,kU d aG∧Eval (O3 fs d) (due d nm) (JY d aG) (bC out)
theorem aa5 {a b:List (Int×Unit)} (h:a=b) (x:Int):dw a x=dw b x:=by rw [h]
theorem akq {d:List aQ} {a b:List dn} (ha:lM d a) (hb:lM d b) (h:∀ i,i<d.length→eX a i=eX b i):a=b:=by
 refine List.ext_getElem (ha.1.trans hb.1.symm) fun i h1 h2=>?_
 have hi:i<d.length:=by rw [← ha.1];exact h1
 have e1:=ha.2 i hi
 have e2:=hb.2 i hi
 have e3:=h i hi
 unfold eX at e3
 unfold jr at e1 e2 e3
 rw [List.getD_eq_getElem?_getD,List.getElem?_eq_getElem h1] at e1 e3
 rw [List.getD_eq_getElem?_getD,List.getElem?_eq_getElem h2] at e2 e3
 simp only [Option.getD_some] at e1 e2 e3
 exact Prod.ext (e1.trans e2.symm) (Prod.ext e3 rfl)
theorem Nj {fs:List aN} {d:List aQ} {r:List dn} {nm:Bytes→Bool} {a b:List dn} (h:gB d=true) (ha:gQ fs d r nm a) (hb:gQ fs d r nm b):a=b:=by
 obtain ⟨l1,hl1,e1⟩:=ha.aG
 obtain ⟨l2,hl2,e2⟩:=hb.aG
 have off:∀ s,¬ due d nm s→∀ x,bC a s x=bC b s x:=fun s hs x=>by
  by_cases hd:∃ i,i<d.length∧nameOf d i=s
  · obtain ⟨i,hi,rfl⟩:=hd
    have hn:nm (nameOf d i)=false:=by
     rw [Bool.eq_false_iff];exact fun hn=>hs ⟨hn,i,hi,rfl⟩
    exact aa5 (by rw [vC h ha.order hi,vC h hb.order hi,ha.kept i hi hn,hb.kept i hi hn]) x
  · have hd':∀ i,i<d.length→nameOf d i≠s:=fun i hi e=>hd ⟨i,hi,e⟩
    exact aa5 (by rw [JC ha.order hd',JC hb.order hd']) x
 have key:=Qe (U:=due d nm) e1 e2 (F5 h hl1 nm) (F5 h hl2 nm) (fun _ h=>h) (fun _ h=>h) (fun _ _ _ _=>Iff.rfl) (fun _ _ _ h=>h) (fun _ _ _ h=>h)
  fun i _ j _=>Classical.or_iff_not_imp_left.2 (off j)
 have all:bC a=bC b:=by
  funext s x
  by_cases hs:due d nm s
  · exact key s hs x
  · exact off s hs x
 refine akq ha.order hb.order fun i hi=>?_
 cases hn:nm (nameOf d i) with
 |false=>rw [ha.kept i hi hn,hb.kept i hi hn]
 |true=>rw [ha.fix i hi hn,hb.fix i hi hn,all]
def aa6 {ι α:Type} (S:Sys ι α) (N:ι→Prop) (aG:ι→Nat) (k:Nat) (X:Ext ι α):Prop:=
 ∀ Y:Ext ι α,(∀ i,¬ (N i∧aG i=k)→∀ x,Y i x=X i x)→(∀ i,N i→aG i=k→∀ x,S.T i Y x→Y i x=true)→∀ i,N i→aG i=k→∀ x,X i x=true→Y i x=true
open Classical in
theorem akr {ι α:Type} {S:Sys ι α} {N:ι→Prop} {aG:ι→Nat} (hs:amO S N aG) {m:Nat} {X X':Ext ι α} (h:∀ i,¬ (N i∧m<aG i)→∀ x,X i x=X' i x) (hX:aa6 S N aG m X):aa6 S N aG m X':=by
 intro Y hY hp i hi hl x hx
 have key:=hX (fun i x=>if N i∧m<aG i then X i x else Y i x) (fun j hj y=>?_) (fun j hj hlj y hy=>?_) i hi hl x (by rw [h i (by omega)];exact hx)
 · rw [if_neg (by omega)] at key;exact key
 · by_cases hc:N j∧m<aG j
   · rw [if_pos hc]
   · rw [if_neg hc,hY j hj,h j hc]
 · rw [if_neg (by omega)]
   have same:∀ t,(S.pos j t∨S.neg j t)→¬ (N t∧m<aG t):=fun t ht hc=>by
    rcases ht with ht|ht
    · have:=(hs j t hj hc.1).1 ht;omega
    · have:=(hs j t hj hc.1).2 ht;omega
   refine hp j hj hlj y (S.mono j _ Y (fun t ht z hz=>?_) (fun t ht z=>?_) y hy)
   · rw [if_neg (same t (.inl ht))] at hz;exact hz
   · rw [if_neg (same t (.inr ht))]
def canon (fs:List aN) (l:List (Int×Unit)):Prop:=l=(fs.filter fun f=>dw l f.1).map fun f=>(f.1,())
def distinct (fs:List aN):Prop:=∀ f∈fs,∀ g∈fs,f.1=g.1→f=g
theorem arN {fs:List aN} (hd:distinct fs) (q:List bH) (X:BX):canon fs (sel fs q X):=by
 show _=List.map _ (List.filter _ _)
 conv=>lhs;unfold sel
 congr 1
 apply List.filter_congr
 intro f hf
 rw [Bool.eq_iff_iff,BP,ako]
 exact ⟨fun h=>⟨f,hf,rfl,h⟩,fun ⟨g,hg,e,hm⟩=>by rw [hd f hf g hg e.symm];exact hm⟩
theorem alH {fs:List aN} {l:List (Int×Unit)} (h:canon fs l):l.length≤fs.length:=by
 rw [h,List.length_map];exact List.length_filter_le _ _
theorem filter_lt {α:Type} {p q:α→Bool} (h:∀ x,p x=true→q x=true):∀ {l:List α},(∃ x∈l,q x=true∧p x=false)→(l.filter p).length<(l.filter q).length
 |[],h'=>by obtain ⟨x,hx,_⟩:=h';cases hx
 |y::r,h'=>by
  have le:(r.filter p).length≤(r.filter q).length:=by
   clear h'
   induction r with
   |nil=>exact Nat.le_refl _
   |cons z t ih=>
    cases hp:p z with
    |true=>rw [List.filter_cons_of_pos hp,List.filter_cons_of_pos (h z hp)];simpa using ih
    |false=>
     rw [List.filter_cons_of_neg (by simp [hp])]
     cases hq:q z with
     |true=>rw [List.filter_cons_of_pos hq];exact Nat.le_succ_of_le ih
     |false=>rw [List.filter_cons_of_neg (by simp [hq])];exact ih
  obtain ⟨x,hx,hq,hp⟩:=h'
  rcases List.mem_cons.1 hx with rfl|hx
  · rw [List.filter_cons_of_pos hq,List.filter_cons_of_neg (by simp [hp])]
    exact Nat.lt_succ_of_le le
  · have ih:=filter_lt h ⟨x,hx,hq,hp⟩
    cases hp':p y with
    |true=>rw [List.filter_cons_of_pos hp',List.filter_cons_of_pos (h y hp')];simpa using ih
    |false=>
     rw [List.filter_cons_of_neg (by simp [hp'])]
     cases hq':q y with
     |true=>rw [List.filter_cons_of_pos hq'];exact Nat.lt_succ_of_lt ih
     |false=>rw [List.filter_cons_of_neg (by simp [hq'])];exact ih
theorem aqy {fs:List aN} {a b:List (Int×Unit)} (ha:canon fs a) (hb:canon fs b) (h:∀ x,dw a x=true→dw b x=true) (hne:b≠a):a.length<b.length:=by
 rw [ha,hb,List.length_map,List.length_map]
 refine filter_lt (p:=fun f:aN=>dw a f.1) (q:=fun f:aN=>dw b f.1) (fun f=>h f.1) (Classical.byContradiction fun hno=>hne ?_)
 rw [ha,hb]
 congr 1
 apply List.filter_congr
 intro f hf
 cases hb':dw b f.1 with
 |false=>
  cases ha':dw a f.1 with
  |false=>rfl
  |true=>rw [h _ ha'] at hb';cases hb'
 |true=>
  cases ha':dw a f.1 with
  |true=>rfl
  |false=>exact (hno ⟨f,hf,hb',ha'⟩).elim
structure qh (fs:List aN) (d:List aQ) (r:List dn) (nm:Bytes→Bool) (aG:List (Int×Unit)) (k:Nat) (out:List dn):Prop where
 order:lM d out
 kept:∀ i,i<d.length→nm (nameOf d i)=false→eX out i=fM r (nameOf d i)
 later:∀ i,i<d.length→nm (nameOf d i)=true→(k:Int)<lv aG i→eX out i=[]
 done:∀ i,i<d.length→nm (nameOf d i)=true→lv aG i<k→eX out i=sel fs (dY d i) (bC out)
 ZV:∀ m,m<k→aa6 (O3 fs d) (due d nm) (JY d aG) m (bC out)
 aoe:∀ i,i<d.length→nm (nameOf d i)=true→lv aG i=k→∀ x,dw (eX out i) x=true→(x,())∈sel fs (dY d i) (bC out)
 least:aa6 (O3 fs d) (due d nm) (JY d aG) k (bC out)
 canon:∀ i,i<d.length→nm (nameOf d i)=true→canon fs (eX out i)
theorem asH {fs:List aN} {d:List aQ} {r:List dn} {nm:Bytes→Bool} {aG:List (Int×Unit)} (h:gB d=true) (hl:kU d aG) {out:List dn} (ho:lM d out)
 (h1:∀ i,i<d.length→nm (nameOf d i)=false→eX out i=fM r (nameOf d i)) (h2:∀ i,i<d.length→nm (nameOf d i)=true→eX out i=[]):qh fs d r nm aG 0 out where
 order:=ho
 kept:=h1
 later:=fun i hi hn _=>h2 i hi hn
 done:=fun i hi _ hlt=>by have:=(hl.2.1 i hi).1;omega
 ZV:=fun m hm=>by omega
 aoe:=fun i hi hn _ x hx=>by rw [h2 i hi hn] at hx;cases hx
 least:=fun Y _ _ s hs _ x hx=>by
  obtain ⟨hn,i,hi,rfl⟩:=hs
  have hx:dw (fM out (nameOf d i)) x=true:=hx
  rw [vC h ho hi,h2 i hi hn] at hx;cases hx
 canon:=fun i hi hn=>by rw [h2 i hi hn];show []=List.map _ (List.filter _ _);rw [List.filter_eq_nil_iff.2 (fun f _=>by simp [dw])];rfl
theorem O4 {out:List dn} {i j:Nat} {x:dn} (hi:i<out.length):jr (out.set i x) j=if j=i then x else jr out j:=by
 unfold jr
 rw [List.getD_eq_getElem?_getD,List.getElem?_set]
 by_cases h:j=i
 · subst h;rw [if_pos rfl,if_pos hi,if_pos rfl];rfl
 · rw [if_neg (fun e=>h e.symm),if_neg h,← List.getD_eq_getElem?_getD]
theorem alI {d:List aQ} {out:List dn} (ho:lM d out) {i:Nat} (hi:i<d.length) (l:List (Int×Unit)):lM d (out.set i (nameOf d i,l,())):=by
 refine ⟨by rw [List.length_set];exact ho.1,fun j hj=>?_⟩
 rw [O4 (by rw [ho.1];exact hi)]
 split
 · next e=>rw [e]
 · exact ho.2 j hj
theorem arO {d:List aQ} (h:gB d=true) {out:List dn} (ho:lM d out) {i:Nat} (hi:i<d.length) (l:List (Int×Unit)):
 (∀ x,bC (out.set i (nameOf d i,l,())) (nameOf d i) x=dw l x)∧∀ s,s≠nameOf d i→∀ x,bC (out.set i (nameOf d i,l,())) s x=bC out s x:=by
 have ho':=alI ho hi l
 refine ⟨fun x=>?_,fun s hs x=>?_⟩
 · refine aa5 ?_ x
   rw [vC h ho' hi]
   unfold eX
   rw [O4 (by rw [ho.1];exact hi),if_pos rfl]
 · refine aa5 ?_ x
   by_cases hd:∃ j,j<d.length∧nameOf d j=s
   · obtain ⟨j,hj,rfl⟩:=hd
     rw [vC h ho' hj,vC h ho hj]
     unfold eX
     rw [O4 (by rw [ho.1];exact hi),if_neg (fun e=>hs (by rw [e]))]
   · have hd':∀ i,i<d.length→nameOf d i≠s:=fun i hi e=>hd ⟨i,hi,e⟩
     rw [JC ho' hd',JC ho hd']
theorem aa7 {fs:List aN} {d:List aQ} (h:gB d=true) {i:Nat} (hi:i<d.length) {X:BX} {x:Int}:(O3 fs d).T (nameOf d i) X x↔(x,())∈sel fs (dY d i) X:=by
 constructor
 · rintro ⟨j,hj,e,hx⟩
   have:=Em h hj hi e
   subst this;exact hx
 · exact fun hx=>⟨i,hi,rfl,hx⟩
theorem at_set {fs:List aN} {d:List aQ} {r:List dn} {nm:Bytes→Bool} {aG:List (Int×Unit)} {k:Nat} {out:List dn} (h:gB d=true) (hl:kU d aG) (hf:distinct fs) (A:qh fs d r nm aG k out) {i:Nat} (hi:i<d.length) (hn:nm (nameOf d i)=true) (hk:lv aG i=k):
 qh fs d r nm aG k (out.set i (nameOf d i,sel fs (dY d i) (bC out),()))∧(sel fs (dY d i) (bC out)≠eX out i→(eX out i).length<(sel fs (dY d i) (bC out)).length)∧(sel fs (dY d i) (bC out)).length≤fs.length:=by
 have hc:=arN hf (dY d i) (bC out)
 have hol:i<out.length:=by rw [A.order.1];exact hi
 have hs:=F5 (fs:=fs) h hl nm
 have hd:due d nm (nameOf d i):=⟨hn,i,hi,rfl⟩
 have hlv:JY d aG (nameOf d i)=k:=by rw [Ah h hi,hk];rfl
 obtain ⟨g1,g2⟩:=arO h A.order hi (sel fs (dY d i) (bC out))
 have up:∀ s x,bC out s x=true→bC (out.set i (nameOf d i,sel fs (dY d i) (bC out),())) s x=true:=fun s x hx=>by
  by_cases e:s=nameOf d i
  · subst e
    rw [g1,BP]
    refine A.aoe i hi hn hk x ?_
    have hx:dw (fM out (nameOf d i)) x=true:=hx
    rw [vC h A.order hi] at hx;exact hx
  · rw [g2 s e];exact hx
 have off:∀ s,¬ (due d nm s∧JY d aG s=k)→∀ x,bC out s x=bC (out.set i (nameOf d i,sel fs (dY d i) (bC out),())) s x:=fun s hs' x=>(g2 s (fun e=>hs' (by rw [e];exact ⟨hd,hlv⟩)) x).symm
 have ids:∀ j,eX (out.set i (nameOf d i,sel fs (dY d i) (bC out),())) j=if j=i then sel fs (dY d i) (bC out) else eX out j:=fun j=>by
  unfold eX
  rw [O4 hol]
  split<;>rfl
 refine ⟨⟨alI A.order hi _,fun j hj RX=>?_,fun j hj RX hlj=>?_,fun j hj RX hlj=>?_,fun m hm=>?_,fun j hj RX hlj x hx=>?_,?_,fun j hj RX=>?_⟩,fun hne=>?_,alH hc⟩
 · rw [ids,if_neg (fun e=>by rw [e,hn] at RX;cases RX)];exact A.kept j hj RX
 · rw [ids,if_neg (fun e=>by rw [e,hk] at hlj;omega)];exact A.later j hj RX hlj
 · rw [ids,if_neg (fun e=>by rw [e,hk] at hlj;omega),A.done j hj RX hlj]
   refine ZQ fun b s hsd x=>off s (fun hc=>?_) x
   have hdj:due d nm (nameOf d j):=⟨RX,j,hj,rfl⟩
   have:=hs (nameOf d j) s hdj hc.1
   have avV:JY d aG (nameOf d j)<k:=by rw [Ah h hj];have:=(hl.2.1 j hj).1;omega
   cases b with
   |false=>have:=this.1 ⟨j,hj,rfl,hsd⟩;omega
   |true=>have:=this.2 ⟨j,hj,rfl,hsd⟩;omega
 · exact akr hs (fun s hs'=>off s fun hc=>hs' ⟨hc.1,by omega⟩) (A.ZV m hm)
 · have hT:(O3 fs d).T (nameOf d j) (bC out) x:=by
    rw [aa7 h hj]
    rw [ids] at hx
    by_cases e:j=i
    · rw [if_pos e,BP] at hx;rw [e];exact hx
    · rw [if_neg e] at hx;exact A.aoe j hj RX hlj x hx
   rw [← aa7 h hj]
   refine (O3 fs d).mono _ _ _ (fun s _=>up s) (fun s hsd=>off s fun hc=>?_) x hT
   have:=(hs (nameOf d j) s ⟨RX,j,hj,rfl⟩ hc.1).2 hsd
   have avV:JY d aG (nameOf d j)=k:=by rw [Ah h hj,hlj];rfl
   omega
 · intro Y hY hp s hsd hls x hx
   have Yp:∀ t,¬ (due d nm t∧JY d aG t=k)→∀ x,Y t x=bC out t x:=fun t ht x=>(hY t ht x).trans (off t ht x).symm
   have base:=A.least Y Yp hp
   by_cases e:s=nameOf d i
   · subst e
     rw [g1,BP,← aa7 h hi] at hx
     refine hp _ hsd hls x ((O3 fs d).mono _ _ _ (fun t _ y hy=>?_) (fun t ht y=>?_) x hx)
     · by_cases ht:due d nm t∧JY d aG t=k
       · exact base t ht.1 ht.2 y hy
       · rw [Yp t ht];exact hy
     · refine (Yp t (fun hc=>?_) y).symm
       have:=(hs (nameOf d i) t hd hc.1).2 ht
       omega
   · rw [g2 s e] at hx
     exact base s hsd hls x hx
 · rw [ids]
   split
   · exact hc
   · exact A.canon j hj RX
 · refine aqy (A.canon i hi hn) hc (fun x hx=>?_) hne
   rw [BP];exact A.aoe i hi hn hk x hx
theorem at_next {fs:List aN} {d:List aQ} {r:List dn} {nm:Bytes→Bool} {aG:List (Int×Unit)} {k:Nat} {out:List dn} (h:gB d=true) (A:qh fs d r nm aG k out) (hstill:∀ i,i<d.length→nm (nameOf d i)=true→lv aG i=k→sel fs (dY d i) (bC out)=eX out i):qh fs d r nm aG (k+1) out where
 order:=A.order
 kept:=A.kept
 later:=fun i hi hn hlt=>A.later i hi hn (by omega)
 done:=fun i hi hn hlt=>by
  by_cases e:lv aG i=k
  · exact (hstill i hi hn e).symm
  · exact A.done i hi hn (by omega)
 ZV:=fun m hm=>by
  by_cases e:m=k
  · subst e;exact A.least
  · exact A.ZV m (by omega)
 aoe:=fun i hi hn hl x hx=>by rw [A.later i hi hn (by omega)] at hx;cases hx
 least:=fun Y _ _ s hs hls x hx=>by
  obtain ⟨hn,i,hi,rfl⟩:=hs
  rw [Ah h hi] at hls
  have hx:dw (fM out (nameOf d i)) x=true:=hx
  rw [vC h A.order hi,A.later i hi hn (by omega)] at hx;cases hx
 canon:=A.canon
theorem at_end {fs:List aN} {d:List aQ} {r:List dn} {nm:Bytes→Bool} {aG:List (Int×Unit)} {k:Nat} {out:List dn} (h:gB d=true) (hl:kU d aG) (A:qh fs d r nm aG k out) (hk:∀ i,i<d.length→lv aG i<k):gQ fs d r nm out where
 order:=A.order
 kept:=A.kept
 fix:=fun i hi hn=>A.done i hi hn (hk i hi)
 aG:=⟨aG,hl,{
  fix:=fun s hs x=>by
   obtain ⟨hn,i,hi,rfl⟩:=hs
   rw [aa7 h hi,← A.done i hi hn (hk i hi),← BP,← vC h A.order hi];rfl
  least:=fun m Y hY hp s hs hls=>by
   have hm:m<k:=by
    obtain ⟨hn,i,hi,rfl⟩:=hs
    rw [Ah h hi] at hls
    have:=hk i hi
    have:=(hl.2.1 i hi).1
    omega
   exact A.ZV m hm Y hY hp s hs hls}⟩
def room (n:Nat) (out:List dn):Nat:=(out.map fun x=>n-x.2.1.length).sum
theorem ae8 {n:Nat}:∀ {out:List dn} {i:Nat} {x:dn},i<out.length→(eX out i).length<x.2.1.length→x.2.1.length≤n→room n (out.set i x)<room n out
 |[],i,x,h,_,_=>by simp at h
 |y::r,0,x,_,h1,h2=>by
  have h1:y.2.1.length<x.2.1.length:=h1
  show ((x::r).map fun x=>n-x.2.1.length).sum<((y::r).map fun x=>n-x.2.1.length).sum
  rw [List.map_cons,List.sum_cons,List.map_cons,List.sum_cons]
  omega
 |y::r,i+1,x,h,h1,h2=>by
  have ih:=ae8 (out:=r) (i:=i) (x:=x) (by simpa using h) h1 h2
  show ((y::r.set i x).map fun x=>n-x.2.1.length).sum<((y::r).map fun x=>n-x.2.1.length).sum
  rw [List.map_cons,List.sum_cons,List.map_cons,List.sum_cons]
  unfold room at ih
  omega
end Sp
namespace Sp
open Go
abbrev tK:=Bytes×List (Int×Unit)×List (Int×Unit)×Unit
abbrev jv:=List gK×List aN×Int×List aQ×List dn×Unit
instance:DecidableEq (List (Int×Unit)):=inferInstance
instance:DecidableEq dn:=inferInstance
instance:DecidableEq (List dn):=inferInstance
instance:DecidableEq (List dn×Unit):=inferInstance
instance:DecidableEq (List aQ×List dn×Unit):=inferInstance
instance:DecidableEq (Int×List aQ×List dn×Unit):=inferInstance
instance:DecidableEq (List aN×Int×List aQ×List dn×Unit):=inferInstance
instance aw0:DecidableEq jv:=(inferInstance:DecidableEq (List gK×List aN×Int×List aQ×List dn×Unit))
def dF (l:LS) (s:Bytes):Bool:=l.any fun x=>x.1==s
theorem gI {l:LS} {s:Bytes}:dF l s=true↔(s,())∈l:=by
 unfold dF
 rw [List.any_eq_true]
 exact ⟨fun ⟨y,hy,h⟩=>by rw [← beq_iff_eq.1 h];exact hy,fun h=>⟨_,h,beq_iff_eq.2 rfl⟩⟩
def bF (r:List dn):Prop:=r.length≤1000∧∀ x∈r,x.2.1.length≤1000
def wS (r:List dn):Prop:=r.length≤100∧∀ x∈r,x.2.1.length≤100
def wU (d:List tK):Prop:=d.length≤5∧∀ x∈d,x.2.1.length≤20
def bJ (c:jv):bV:=(c.1,c.2.1,c.2.2.1,())
def fF (c:jv):List aQ:=c.2.2.2.1
def jH (c:jv):List dn:=c.2.2.2.2.1
def fK (c:jv):Prop:=bI (bJ c)∧aS (fF c)∧bF (jH c)
def Ot (f:aN):Prop:=f.2.2.2.2.1.length≤500
def SI (c:jv):Prop:=∀ f∈c.2.1,Ot f
def fJ (d:List aQ):LS:=d.map fun x=>(x.1,())
def XF (d:List aQ) (m:Int):Prop:=m≤1000∧∀ aG,aF d=true→kU d aG→∀ i,i<d.length→lv aG i≤m
open Classical in
noncomputable def dS (c:jv):Bool:=aF (fF c)&&aB (bJ c)&&decide (gQ c.2.1 (fF c) [] (fun _=>true) (jH c))
def fU (a:List fH):LS:=a.map fun x=>(x.1,())
def jm (f g:aN):List Bytes:=((f.2.2.2.2.1++g.2.2.2.2.1).map fun a=>a.1).filter fun s=>!decide (cO f.2.2.2.2.1 s=cO g.2.2.2.2.1 s)
def lG (q:List bH):List Bytes:=(q.filter fun n=>n.1==2||(n.1==3||n.1==4)).map fun n=>n.2.2.2.1
def rH (q:List bH):List Bytes:=(q.filter jG).map fun n=>n.2.2.2.1
def linked (q:List bH):Bool:=q.any fun n=>n.1==9
def asking (d:List aQ) (name:Bytes):LS:=(d.filter fun x=>(rH x.2.1).contains name).map fun x=>(x.1,())
inductive Reach (d:List aQ) (P:Bytes→Prop):Bytes→Prop where
 |base {s}:P s→Reach d P s
 |step {s i}:Reach d P s→i<d.length→s∈rH (dY d i)→Reach d P (nameOf d i)
def isSet (r:LS) (P:Bytes→Prop):Prop:=r.length≤1000∧∀ s,dF r s=true↔P s
def reached (d:List aQ) (names r:LS):Prop:=isSet r (Reach d fun s=>dF names s=true)
def IU (d:List aQ) (f g:aN) (s:Bytes):Prop:=
 ∃ i,i<d.length∧nameOf d i=s∧(f.1≠g.1∨(∃ t,t∈lG (dY d i)∧t∈jm f g)∨(linked (dY d i)=true∧f.2.2.2.1≠g.2.2.2.1))
def touched (d:List aQ) (f g:aN) (r:LS):Prop:=r.length≤d.length∧∀ s,dF r s=true↔IU d f g s
def Vm (d:List aQ) (f g:aN):Bytes→Prop:=Reach d (IU d f g)
open Classical in
noncomputable def aj9 (d:List aQ) (f g:aN) (s:Bytes):Bool:=decide (Vm d f g s)
def without (a b:List (Int×Unit)):List (Int×Unit):=a.filter fun x=>!dw b x.1
def jR (a:List dn) (x:dn):tK:=(x.1,without x.2.1 (fM a x.1),without (fM a x.1) x.2.1,())
def rX (y:tK):Bool:=decide (0<y.2.1.length+y.2.2.1.length)
def wQ (a b:List dn):List tK:=(b.map (jR a)).filter rX
def turned (c:jv) (s:bV) (d:List aQ) (nm:Bytes→Bool) (c':jv) (df:List tK) (ok:Bool):Prop:=
 ok=(aF d&&aB s)∧(ok=true→bJ c'=s∧fF c'=d∧gQ s.2.1 d (jH c) nm (jH c')∧df=wQ (jH c) (jH c'))∧(ok=false→c'=c∧df=[])
def updated (c:jv) (f:aN) (c':jv) (df:List tK) (ok:Bool):Prop:=
 ok=(dS c&&(aU (bJ c) f).2)∧
 (ok=true→bJ c'=(aU (bJ c) f).1∧fF c'=fF c∧gQ (aU (bJ c) f).1.2.1 (fF c) (jH c) (aj9 (fF c) (eu (bJ c) f.1).1 f) (jH c')∧df=wQ (jH c) (jH c'))∧
 (ok=false→c'=c∧df=[])
def aaN (c:jv):Prop:=fK c∧c.1=usual∧0<c.2.1.length∧dS c=true
def Dz (l:List (Int×Unit)) (n:Int):List (Int×Unit):=
 let k:=(l.takeWhile fun x=>decide (x.1<n)).length
 bif decide (k<l.length)&&(l.getD k (0,())).1==n then l else l.take k++[(n,())]++l.drop k
def rY (l:List (Int×Unit)) (xs:List (Int×Unit)):List (Int×Unit):=xs.foldl (fun l x=>Dz l x.1) l
def zh (l x y:List (Int×Unit)):List (Int×Unit):=rY (rY [] (l.filter fun z=>!dw y z.1)) x
def iE (a:List dn) (d:List tK):List dn:=a.map fun x=>(x.1,(d.filter fun y=>y.1==x.1).foldl (fun l y=>zh l y.2.1 y.2.2.1) x.2.1,())
def IL (fs:List aN) (d:List aQ) (r:List dn) (nm:Bytes→Bool) (aG:List (Int×Unit)) (k:Nat) (ZW:List dn) (i:Nat) (c:Bool) (out:List dn):Prop:=
 qh fs d r nm aG k out∧(c=true→room fs.length out<room fs.length ZW)∧
  (c=false→out=ZW∧∀ j,j<i→j<d.length→nm (nameOf d j)=true→lv aG j=k→sel fs (dY d j) (bC out)=eX out j)
theorem BN {fs:List aN} {d:List aQ} {r:List dn} {nm:Bytes→Bool} {aG:List (Int×Unit)} {k i:Nat} {ZW out:List dn} {c:Bool} (h:IL fs d r nm aG k ZW i c out) (hs:nm (nameOf d i)=true→lv aG i=k→sel fs (dY d i) (bC out)=eX out i):IL fs d r nm aG k ZW (i+1) c out:=
 ⟨h.1,h.2.1,fun hc=>⟨(h.2.2 hc).1,fun j hj hd hn hl=>by
   rcases Nat.lt_or_ge j i with h'|h'
   · exact (h.2.2 hc).2 j h' hd hn hl
   · have:j=i:=by omega
     subst this;exact hs hn hl⟩⟩
theorem aeL {fs:List aN} {d:List aQ} {r:List dn} {nm:Bytes→Bool} {aG:List (Int×Unit)} {k i:Nat} {ZW out:List dn} {c:Bool} (hd:gB d=true) (hl:kU d aG) (hf:distinct fs) (h:IL fs d r nm aG k ZW i c out) (hi:i<d.length) (hn:nm (nameOf d i)=true) (hk:lv aG i=k) (hne:sel fs (dY d i) (bC out)≠eX out i):
 IL fs d r nm aG k ZW (i+1) true (out.set i ((jr out i).1,sel fs (dY d i) (bC out),())):=by
 obtain ⟨A,h1,h2⟩:=h
 rw [A.order.2 i hi]
 obtain ⟨g1,g2,g3⟩:=at_set hd hl hf A hi hn hk
 refine ⟨g1,fun _=>?_,fun h=>by cases h⟩
 have hr:room fs.length (out.set i (nameOf d i,sel fs (dY d i) (bC out),()))<room fs.length out:=ae8 (by rw [A.order.1];exact hi) (g2 hne) g3
 cases c with
 |true=>have:=h1 rfl;omega
 |false=>rw [(h2 rfl).1] at hr ⊢;exact hr
theorem PO {fs:List aN} {d:List aQ} {r:List dn} {nm:Bytes→Bool} {aG:List (Int×Unit)} {k:Nat} {out:List dn} (A:qh fs d r nm aG k out) (hd:d.length≤1000) (hf:fs.length≤1000) (hr:bF r):bF out:=by
 refine ⟨by rw [A.order.1];exact hd,fun x hx=>?_⟩
 obtain ⟨i,hi,rfl⟩:=List.getElem_of_mem hx
 have hi':i<d.length:=by rw [← A.order.1];exact hi
 have e:(out[i]).2.1=eX out i:=by
  unfold eX jr
  rw [List.getD_eq_getElem?_getD,List.getElem?_eq_getElem hi];rfl
 rw [e]
 cases hn:nm (nameOf d i) with
 |true=>exact Nat.le_trans (alH (A.canon i hi' hn)) hf
 |false=>
  rw [A.kept i hi' hn]
  have:∀ l:List dn,(∀ x∈l,x.2.1.length≤1000)→(fM l (nameOf d i)).length≤1000:=by
   intro l
   induction l with
   |nil=>exact fun _=>Nat.zero_le _
   |cons x t ih=>
    intro hl
    rw [fM]
    cases x.1==nameOf d i with
    |true=>exact hl x List.mem_cons_self
    |false=>exact ih fun y hy=>hl y (List.mem_cons_of_mem _ hy)
  exact this r hr.2
def tV (r:List dn) (nm:Bytes→Bool) (x:aQ):dn:=(x.1,bif nm x.1 then [] else fM r x.1,())
theorem ae9 {d:List aQ} {r:List dn} {nm:Bytes→Bool} {i:Nat} (hi:i<d.length):jr (d.map (tV r nm)) i=tV r nm (dV d i):=by
 unfold jr dV
 rw [List.getD_eq_getElem?_getD,List.getD_eq_getElem?_getD,List.getElem?_map,List.getElem?_eq_getElem hi];rfl
theorem Je {fs:List aN} {d:List aQ} {r:List dn} {nm:Bytes→Bool} {aG:List (Int×Unit)} (hd:gB d=true) (hl:kU d aG):qh fs d r nm aG 0 (d.map (tV r nm)):=by
 refine asH hd hl ⟨by simp,fun i hi=>?_⟩ (fun i hi hn=>?_) fun i hi hn=>?_
 · rw [ae9 hi];rfl
 · unfold eX
   rw [ae9 hi]
   show (bif nm (nameOf d i) then [] else fM r (nameOf d i))=_
   rw [hn];rfl
 · unfold eX
   rw [ae9 hi]
   show (bif nm (nameOf d i) then [] else fM r (nameOf d i))=_
   rw [hn];rfl
theorem Ny {s:bV} (h:aB s=true):∀ (j i:Nat),i<j→j<s.2.1.length→(fileAt s.2.1 i).1<(fileAt s.2.1 j).1:=by
 intro j
 induction j with
 |zero=>intro i hi;omega
 |succ j ih=>
  intro i hi hj
  have h1:kX s (j+1)=true:=by
   unfold aB at h
   rw [Bool.and_eq_true,Bool.and_eq_true,Bool.and_eq_true] at h
   have:=h.1.1.1
   unfold jO at this
   exact List.all_eq_true.1 this (j+1) (List.mem_range.2 hj)
  have h2:(fileAt s.2.1 j).1<(fileAt s.2.1 (j+1)).1:=by
   unfold kX at h1
   rw [Bool.and_eq_true] at h1
   have:=h1.2
   rw [decide_eq_true (Nat.succ_pos j)] at this
   simpa using this
  rcases Nat.lt_or_ge i j with h3|h3
  · exact Int.lt_trans (ih i h3 (by omega)) h2
  · have:i=j:=by omega
    subst this;exact h2
theorem vz {s:bV} (h:aB s=true):distinct s.2.1:=by
 intro f hf g hg e
 obtain ⟨i,hi,rfl⟩:=List.getElem_of_mem hf
 obtain ⟨j,hj,rfl⟩:=List.getElem_of_mem hg
 have at_:∀ k (hk:k<s.2.1.length),fileAt s.2.1 k=s.2.1[k]:=fun k hk=>by
  unfold fileAt
  rw [List.getD_eq_getElem?_getD,List.getElem?_eq_getElem hk];rfl
 rcases Nat.lt_trichotomy i j with h1|h1|h1
 · have:=Ny h j i h1 hj
   rw [at_ i hi,at_ j hj] at this;omega
 · subst h1;rfl
 · have:=Ny h i j h1 hi
   rw [at_ i hi,at_ j hj] at this;omega
theorem Jf {fs:List aN} {d:List aQ} {r r':List dn} {nm nm':Bytes→Bool} {out:List dn} (h:gQ fs d r nm out) (hn:∀ i,i<d.length→nm (nameOf d i)=nm' (nameOf d i)) (hr:∀ i,i<d.length→nm (nameOf d i)=false→fM r (nameOf d i)=fM r' (nameOf d i)):gQ fs d r' nm' out:=by
 have hd:∀ s,due d nm s↔due d nm' s:=fun s=>by
  constructor
  · rintro ⟨a,i,hi,rfl⟩;exact ⟨by rw [← hn i hi];exact a,i,hi,rfl⟩
  · rintro ⟨a,i,hi,rfl⟩;exact ⟨by rw [hn i hi];exact a,i,hi,rfl⟩
 obtain ⟨aG,h1,h2⟩:=h.aG
 exact ⟨h.order,fun i hi h'=>by rw [← hn i hi] at h';rw [h.kept i hi h',hr i hi h'],fun i hi h'=>h.fix i hi (by rw [hn i hi];exact h'),aG,h1,
  fun s hs=>h2.fix s ((hd s).2 hs),fun k Y hY hp s hs=>h2.least k Y (fun t ht=>hY t fun h'=>ht ⟨(hd t).2 h'.1,h'.2⟩) (fun t ht=>hp t ((hd t).1 ht)) s ((hd s).2 hs)⟩
theorem aqz {fs:List aN} {d:List aQ} {r:List dn} {nm:Bytes→Bool} {aG:List (Int×Unit)} {k:Nat} (hd:gB d=true) (hl:kU d aG) (hf:distinct fs):∀ (n:Nat) (out:List dn),room fs.length out≤n→qh fs d r nm aG k out→∃ out',qh fs d r nm aG (k+1) out':=by
 intro n
 induction n using Nat.strongRecOn with
 |_ n ih=>
  intro out hn A
  by_cases hs:∀ i,i<d.length→nm (nameOf d i)=true→lv aG i=k→sel fs (dY d i) (bC out)=eX out i
  · exact ⟨out,at_next hd A hs⟩
  · obtain ⟨i,hi⟩:=Classical.not_forall.1 hs
    have h1:i<d.length:=Classical.byContradiction fun h=>hi fun h'=>(h h').elim
    have h2:nm (nameOf d i)=true:=Classical.byContradiction fun h=>hi fun _ h'=>(h h').elim
    have h3:lv aG i=k:=Classical.byContradiction fun h=>hi fun _ _ h'=>(h h').elim
    have h4:sel fs (dY d i) (bC out)≠eX out i:=fun h=>hi fun _ _ _=>h
    obtain ⟨g1,g2,g3⟩:=at_set hd hl hf A h1 h2 h3
    have hr:room fs.length (out.set i (nameOf d i,sel fs (dY d i) (bC out),()))<room fs.length out:=ae8 (by rw [A.order.1];exact h1) (g2 h4) g3
    exact ih _ (by omega) _ (Nat.le_refl _) g1
theorem Lc {fs:List aN} {d:List aQ} (r:List dn) (nm:Bytes→Bool) {aG:List (Int×Unit)} (hd:gB d=true) (hl:kU d aG) (hf:distinct fs):∃ out,gQ fs d r nm out:=by
 have:∀ k,∃ out,qh fs d r nm aG k out:=fun k=>by
  induction k with
  |zero=>exact ⟨_,Je hd hl⟩
  |succ k ih=>
   obtain ⟨out,A⟩:=ih
   exact aqz hd hl hf _ out (Nat.le_refl _) A
 obtain ⟨out,A⟩:=this (d.length+1)
 exact ⟨out,at_end hd hl A fun i hi=>by have:=(hl.2.1 i hi).2;omega⟩
end Sp
namespace Sp
open Go
theorem I4 {d:List aQ} {out:List dn} (ho:lM d out) {s:Bytes} (hs:¬ ∃ i,i<d.length∧nameOf d i=s) (x:Int):bC out s x=false:=by
 unfold bC
 rw [JC ho fun i hi e=>hs ⟨i,hi,e⟩];rfl
theorem incr {fs fs':List aN} {d d':List aQ} {old R E:List dn} {nm:Bytes→Bool} (hd:gB d=true) (hd':gB d'=true)
 (h1:gQ fs d [] (fun _=>true) old) (h2:gQ fs' d' old nm R) (h3:gQ fs' d' [] (fun _=>true) E)
 (hcl:∀ i,i<d'.length→nm (nameOf d' i)=false→(∃ j,j<d.length∧nameOf d j=nameOf d' i∧dY d j=dY d' i)∧(∀ X,sel fs (dY d' i) X=sel fs' (dY d' i) X)∧∀ b,∀ s∈fE (dY d' i) b,nm s=false)
 (hsub:∀ j,j<d.length→∃ i,i<d'.length∧nameOf d' i=nameOf d j):R=E:=by
 obtain ⟨l1,hl1,e1⟩:=h1.aG
 obtain ⟨l2,hl2,e2⟩:=h2.aG
 obtain ⟨l3,hl3,e3⟩:=h3.aG
 have out1:∀ s,(¬ ∃ i,i<d'.length∧nameOf d' i=s)→∀ x,bC old s x=false:=fun s hs x=>
  I4 h1.order (fun ⟨j,hj,e⟩=>by obtain ⟨i,hi,e'⟩:=hsub j hj;exact hs ⟨i,hi,e'.trans e⟩) x
 have avW:=Qe (U:=fun s=>nm s=false∧∃ i,i<d'.length∧nameOf d' i=s) e1 e3 (F5 hd hl1 _) (F5 hd' hl3 _)
  (fun s ⟨hn,i,hi,e⟩=>by subst e;obtain ⟨j,hj,e,_⟩:=(hcl i hi hn).1;exact ⟨rfl,j,hj,e⟩) (fun s ⟨_,hs⟩=>⟨rfl,hs⟩)
  (fun s ⟨hn,i,hi,e⟩ X x=>by
    subst e
    obtain ⟨⟨j,hj,e,eq⟩,hsel,_⟩:=hcl i hi hn
    rw [aa7 hd' hi,← e,aa7 hd hj,eq,hsel X])
  (fun s ⟨hn,i,hi,e⟩ t ⟨i2,hi2,e2,ht⟩=>by
    subst e
    obtain ⟨⟨j,hj,e,eq⟩,_⟩:=hcl i hi hn
    have:=Em hd' hi2 hi e2
    subst this
    exact ⟨j,hj,e,by unfold dY at eq;rw [eq];exact ht⟩)
  (fun s ⟨hn,i,hi,e⟩ t ⟨i2,hi2,e2,ht⟩=>by
    subst e
    obtain ⟨⟨j,hj,e,eq⟩,_⟩:=hcl i hi hn
    have:=Em hd' hi2 hi e2
    subst this
    exact ⟨j,hj,e,by unfold dY at eq;rw [eq];exact ht⟩)
  (fun s ⟨hn,i,hi,e⟩ t ht=>by
    subst e
    obtain ⟨⟨j,hj,e,eq⟩,_,aqA⟩:=hcl i hi hn
    have hnt:nm t=false:=by
     rcases ht with ⟨j2,hj2,e2,ht⟩|⟨j2,hj2,e2,ht⟩
     · have:=Em hd hj2 hj (e2.trans e.symm)
       subst this
       exact aqA false t (by rw [← eq];exact ht)
     · have:=Em hd hj2 hj (e2.trans e.symm)
       subst this
       exact aqA true t (by rw [← eq];exact ht)
    by_cases hin:∃ i,i<d'.length∧nameOf d' i=t
    · exact .inl ⟨hnt,hin⟩
    · exact .inr fun x=>by rw [out1 t hin,I4 h3.order hin])
 have off:∀ s,nm s=false→∀ x,bC old s x=bC E s x:=fun s hn x=>by
  by_cases hin:∃ i,i<d'.length∧nameOf d' i=s
  · exact avW s ⟨hn,hin⟩ x
  · rw [out1 s hin,I4 h3.order hin]
 have avY:=Qe (U:=due d' nm) e2 e3 (F5 hd' hl2 _) (F5 hd' hl3 _) (fun _ h=>h) (fun s ⟨_,h⟩=>⟨rfl,h⟩) (fun _ _ _ _=>Iff.rfl) (fun _ _ _ h=>h) (fun _ _ _ h=>h)
  fun s _ t _=>by
   by_cases ht:due d' nm t
   · exact .inl ht
   · refine .inr fun x=>?_
     by_cases hin:∃ i,i<d'.length∧nameOf d' i=t
     · obtain ⟨i,hi,rfl⟩:=hin
       have hn:nm (nameOf d' i)=false:=by rw [Bool.eq_false_iff];exact fun hn=>ht ⟨hn,i,hi,rfl⟩
       rw [← off _ hn]
       unfold bC
       rw [vC hd' h2.order hi,h2.kept i hi hn]
     · rw [I4 h2.order hin,I4 h3.order hin]
 have all:∀ s x,bC R s x=bC E s x:=fun s x=>by
  by_cases hs:due d' nm s
  · exact avY s hs x
  · by_cases hin:∃ i,i<d'.length∧nameOf d' i=s
    · obtain ⟨i,hi,rfl⟩:=hin
      have hn:nm (nameOf d' i)=false:=by rw [Bool.eq_false_iff];exact fun hn=>hs ⟨hn,i,hi,rfl⟩
      rw [← off _ hn]
      unfold bC
      rw [vC hd' h2.order hi,h2.kept i hi hn]
    · rw [I4 h2.order hin,I4 h3.order hin]
 refine akq h2.order h3.order fun i hi=>?_
 cases hn:nm (nameOf d' i) with
 |true=>
  rw [h2.fix i hi hn,h3.fix i hi rfl]
  exact ZQ fun _ s _ x=>all s x
 |false=>
  obtain ⟨⟨j,hj,e,eq⟩,hsel,aqA⟩:=hcl i hi hn
  rw [h2.kept i hi hn,← e,vC hd h1.order hj,h1.fix j hj rfl,h3.fix i hi rfl,eq,hsel]
  exact ZQ fun b s hs x=>off s (aqA b s hs) x
theorem I5:∀ {l:List fH} {s:Bytes},(∀ a∈l,a.1≠s)→cO l s=(0,0,[],())
 |[],_,_=>rfl
 |x::r,s,h=>by
  rw [cO,beq_eq_false_iff_ne.2 (h x List.mem_cons_self)]
  exact I5 fun a ha=>h a (List.mem_cons_of_mem _ ha)
theorem arP {f g:aN} {t:Bytes} (h:t ∉ jm f g):cO f.2.2.2.2.1 t=cO g.2.2.2.2.1 t:=by
 by_cases hm:t∈(f.2.2.2.2.1++g.2.2.2.2.1).map fun a=>a.1
 · refine Classical.byContradiction fun hne=>h ?_
   unfold jm
   rw [List.mem_filter]
   exact ⟨hm,by rw [decide_eq_false hne];rfl⟩
 · have:∀ a∈f.2.2.2.2.1++g.2.2.2.2.1,a.1≠t:=fun a ha e=>hm (List.mem_map.2 ⟨a,ha,e⟩)
   rw [I5 fun a ha=>this a (List.mem_append.2 (.inl ha)),I5 fun a ha=>this a (List.mem_append.2 (.inr ha))]
theorem afa {q:List bH} {a:Nat} (h:(nodeAt q a).1≠0):nodeAt q a∈q:=by
 unfold nodeAt at h ⊢
 rw [List.getD_eq_getElem?_getD] at h ⊢
 by_cases ha:a<q.length
 · rw [List.getElem?_eq_getElem ha];exact List.getElem_mem ha
 · rw [List.getElem?_eq_none (by omega)] at h;exact (h rfl).elim
theorem arQ {q:List bH} {a:Nat} {f g:aN} {X:BX} (hid:f.1=g.1) (hat:∀ t∈lG q,cO f.2.2.2.2.1 t=cO g.2.2.2.2.1 t) (hlk:linked q=true→f.2.2.2.1=g.2.2.2.1):iP (nodeAt q a) f X=iP (nodeAt q a) g X:=by
 have at_:(nodeAt q a).1=2∨(nodeAt q a).1=3∨(nodeAt q a).1=4→cO f.2.2.2.2.1 (nodeAt q a).2.2.2.1=cO g.2.2.2.2.1 (nodeAt q a).2.2.2.1:=fun h=>by
  refine hat _ ?_
  unfold lG
  rw [List.mem_map]
  refine ⟨nodeAt q a,List.mem_filter.2 ⟨afa (by omega),?_⟩,rfl⟩
  simp only [Bool.or_eq_true,beq_iff_eq];exact h
 unfold iP
 by_cases h2:(nodeAt q a).1=2
 · rw [at_ (.inl h2),beq_iff_eq.2 h2];rfl
 rw [beq_eq_false_iff_ne.2 h2]
 by_cases h3:(nodeAt q a).1=3
 · rw [at_ (.inr (.inl h3)),beq_iff_eq.2 h3];rfl
 rw [beq_eq_false_iff_ne.2 h3]
 by_cases h4:(nodeAt q a).1=4
 · rw [at_ (.inr (.inr h4)),beq_iff_eq.2 h4];rfl
 rw [beq_eq_false_iff_ne.2 h4]
 by_cases h8:(nodeAt q a).1=8
 · rw [beq_iff_eq.2 h8,hid]
   show (bif false then _ else _)=_
   rfl
 rw [beq_eq_false_iff_ne.2 h8]
 by_cases h9:(nodeAt q a).1=9
 · have:linked q=true:=by
    unfold linked
    exact List.any_eq_true.2 ⟨_,afa (by omega),beq_iff_eq.2 h9⟩
   rw [beq_iff_eq.2 h9,hlk this];rfl
 rw [beq_eq_false_iff_ne.2 h9];rfl
theorem asI {q:List bH} {f g:aN} {X:BX} (hid:f.1=g.1) (hat:∀ t∈lG q,cO f.2.2.2.2.1 t=cO g.2.2.2.2.1 t) (hlk:linked q=true→f.2.2.2.1=g.2.2.2.1):∀ a,val q f X a=val q g X a:=by
 intro a
 induction a using Nat.strongRecOn with
 |_ a ih=>
  rw [Jy q f X a,Jy q g X a]
  split
  · split
    · next h=>rw [ih _ h]
    · rfl
  · split
    · split
      · next h=>rw [ih _ h.1,ih _ h.2]
      · rfl
    · split
      · split
        · next h=>rw [ih _ h.1,ih _ h.2]
        · rfl
      · exact arQ hid hat hlk
theorem arR {q:List bH} {b:Bool} {s:Bytes} (h:s∈fE q b):s∈rH q:=by
 unfold fE at h
 rw [List.mem_filterMap] at h
 obtain ⟨i,hi,e⟩:=h
 cases hc:jG (nodeAt q i)&&((negated q).getD i (false,())).1==b with
 |false=>rw [hc] at e;cases e
 |true=>
  rw [hc] at e
  rw [Bool.and_eq_true] at hc
  have e:(nodeAt q i).2.2.2.1=s:=Option.some.inj e
  unfold rH
  rw [List.mem_map]
  refine ⟨nodeAt q i,List.mem_filter.2 ⟨afa fun h0=>?_,hc.1⟩,e⟩
  have:=hc.1
  unfold jG at this
  rw [h0] at this
  cases this
theorem atH {fs:List aN} {q:List bH} {X:BX} {n:Nat} {g:aN} (hn:n<fs.length) (hid:(fileAt fs n).1=g.1) (hm:iM q (fileAt fs n) X=iM q g X):sel (fs.set n g) q X=sel fs q X:=by
 have form:∀ l:List aN,sel l q X=(l.map fun f=>(iM q f X,f.1)).filterMap fun p=>bif p.1 then some (p.2,()) else none:=fun l=>by
  unfold sel
  induction l with
  |nil=>rfl
  |cons f r ih=>
   rw [List.map_cons,List.filterMap_cons]
   cases h:iM q f X with
   |true=>rw [List.filter_cons_of_pos (p:=fun f=>iM q f X) h,List.map_cons,ih];rfl
   |false=>rw [List.filter_cons_of_neg (p:=fun f=>iM q f X) (by simp [h]),ih];rfl
 rw [form,form,List.map_set]
 congr 1
 have hat:fileAt fs n=fs[n]:=by unfold fileAt;rw [List.getD_eq_getElem?_getD,List.getElem?_eq_getElem hn];rfl
 rw [hat] at hid hm
 have:(iM q g X,g.1)=(fs.map fun f=>(iM q f X,f.1))[n]'(by rw [List.length_map];exact hn):=by rw [List.getElem_map,hm,hid]
 rw [this,List.set_getElem_self]
theorem asx {fs:List aN} {d:List aQ} {n:Nat} {g:aN} {old R E:List dn} (hd:gB d=true) (hn:n<fs.length) (hid:(fileAt fs n).1=g.1)
 (h1:gQ fs d [] (fun _=>true) old) (h2:gQ (fs.set n g) d old (aj9 d (fileAt fs n) g) R) (h3:gQ (fs.set n g) d [] (fun _=>true) E):R=E:=by
 have asJ:∀ s,aj9 d (fileAt fs n) g s=true↔Vm d (fileAt fs n) g s:=fun s=>@decide_eq_true_iff _ (Classical.propDecidable _)
 refine incr hd hd h1 h2 h3 (fun i hi hna=>⟨⟨i,hi,rfl,rfl⟩,fun X=>?_,fun b s hs=>?_⟩) fun j hj=>⟨j,hj,rfl⟩
 · have hna:¬ Vm d (fileAt fs n) g (nameOf d i):=fun h=>by rw [(asJ _).2 h] at hna;cases hna
   have hnt:¬ IU d (fileAt fs n) g (nameOf d i):=fun h=>hna (.base h)
   refine (atH hn hid ?_).symm
   unfold iM
   rw [asI hid (fun t ht=>?_) fun hl=>?_]
   · exact arP fun hc=>hnt ⟨i,hi,rfl, .inr (.inl ⟨t,ht,hc⟩)⟩
   · exact Classical.byContradiction fun hne=>hnt ⟨i,hi,rfl, .inr (.inr ⟨hl,hne⟩)⟩
 · rw [Bool.eq_false_iff]
   intro hs'
   have:=(asJ s).1 hs'
   have h':Vm d (fileAt fs n) g (nameOf d i):= .step this hi (arR hs)
   rw [(asJ _).2 h'] at hna;cases hna
end Sp
namespace Sp
open Go
def avZ (as:List fH):Prop:=as.Pairwise fun x y=>Op.bytesLess x.1 y.1=true
theorem aof {α:Type} {R:α→α→Prop} (ht:∀ a b c,R a b→R b c→R a c) (d:α):∀ (l:List α),(∀ i,i+1<l.length→R (l.getD i d) (l.getD (i+1) d))→l.Pairwise R
 |[],_=>List.Pairwise.nil
 |[x],_=>List.pairwise_singleton _ _
 |x::y::r,h=>by
  have ih:=aof ht d (y::r) fun i hi=>h (i+1) (by simpa using hi)
  have h0:R x y:=h 0 (by simp)
  refine List.pairwise_cons.2 ⟨fun z hz=>?_,ih⟩
  rcases List.mem_cons.1 hz with rfl|hz
  · exact h0
  · exact ht _ _ _ h0 ((List.pairwise_cons.1 ih).1 z hz)
theorem aoQ {fs:List gK} {as:List fH}:kP fs as=true↔(∀ a∈as,jw fs a.1 a.2.1 a.2.2.1 a.2.2.2.1=true)∧avZ as:=by
 have at_:∀ i (hi:i<as.length),bZ as i=as[i]:=fun i hi=>by unfold bZ;rw [List.getD_eq_getElem?_getD,List.getElem?_eq_getElem hi];rfl
 unfold kP
 rw [show (jO as.length (kE fs as)=true)↔∀ i,i<as.length→kE fs as i=true from by
  unfold jO
  rw [List.all_eq_true]
  exact ⟨fun h i hi=>h i (List.mem_range.2 hi),fun h i hi=>h i (List.mem_range.1 hi)⟩]
 have one:∀ i,kE fs as i=true↔jw fs (bZ as i).1 (bZ as i).2.1 (bZ as i).2.2.1 (bZ as i).2.2.2.1=true∧(0<i→Op.bytesLess (bZ as (i-1)).1 (bZ as i).1=true):=fun i=>by
  unfold kE
  rw [Bool.and_eq_true]
  refine and_congr_right fun _=>?_
  by_cases h0:0<i
  · rw [decide_eq_true h0];simp [h0]
  · rw [decide_eq_false h0];simp [h0]
 constructor
 · intro h
   refine ⟨fun a ha=>?_,?_⟩
   · obtain ⟨i,hi,rfl⟩:=List.getElem_of_mem ha
     have:=((one i).1 (h i hi)).1
     rw [at_ i hi] at this;exact this
   · refine aof (R:=fun x y:fH=>Op.bytesLess x.1 y.1=true) (fun a b c h1 h2=>Le _ _ _ h1 h2) ([],0,0,[],()) as fun i hi=>?_
     exact ((one (i+1)).1 (h (i+1) hi)).2 (by omega)
 · rintro ⟨h1,h2⟩ i hi
   refine (one i).2 ⟨?_,fun h0=>?_⟩
   · rw [at_ i hi];exact h1 _ (List.getElem_mem hi)
   · rw [at_ i hi,at_ (i-1) (by omega)]
     exact List.pairwise_iff_getElem.1 h2 (i-1) i (by omega) hi (by omega)
theorem aog {α:Type} [BEq α] [LawfulBEq α]:∀ (a b:List α),a.Nodup→(∀ x∈a,x∈b)→a.length≤b.length
 |[],_,_,_=>Nat.zero_le _
 |x::r,b,hn,h=>by
  rw [List.nodup_cons] at hn
  have hx:=h x List.mem_cons_self
  have ih:=aog r (b.erase x) hn.2 fun y hy=>by
   have hne:y≠x:=fun e=>by subst e;exact hn.1 hy
   rw [List.mem_erase_of_ne hne]
   exact h y (List.mem_cons_of_mem _ hy)
  rw [List.length_erase_of_mem hx] at ih
  have:0<b.length:=List.length_pos_of_mem hx
  rw [List.length_cons];omega
theorem aic:∀ {fs:List gK} {s:Bytes},kindOf fs s≠0→s∈fs.map fun f=>f.1
 |[],_,h=>(h rfl).elim
 |f::r,s,h=>by
  rw [kindOf] at h
  by_cases e:f.1=s
  · rw [List.map_cons,e];exact List.mem_cons_self
  · rw [decide_eq_false e] at h
    rw [List.map_cons]
    exact List.mem_cons_of_mem _ (aic h)
theorem asy {fs:List gK} {as:List fH} (h:kP fs as=true):as.length≤fs.length:=by
 obtain ⟨h1,h2⟩:=aoQ.1 h
 have:=aog (as.map fun a=>a.1) (fs.map fun f=>f.1) ?_ fun s hs=>?_
 · rw [List.length_map,List.length_map] at this;exact this
 · unfold List.Nodup
   rw [List.pairwise_map]
   exact h2.imp fun {a b} hab=>aa4 hab
 · obtain ⟨a,ha,rfl⟩:=List.mem_map.1 hs
   have hm:=h1 a ha
   unfold jw at hm
   simp only [Bool.and_eq_true,decide_eq_true_eq,Bool.not_eq_true',decide_eq_false_iff_not] at hm
   exact aic (by rw [← hm.2];exact hm.1.2)
def FZ (l:List (Int×Unit)):Prop:=l.Pairwise fun x y=>x.1<y.1
theorem arS {x:Int×Unit} {r:List (Int×Unit)} {n:Int}:Dz (x::r) n=if x.1<n then x::Dz r n else if x.1=n then x::r else (n,())::x::r:=by
 unfold Dz
 by_cases h:x.1<n
 · rw [if_pos h,List.takeWhile_cons_of_pos (by simp [h])]
   dsimp only
   rw [List.length_cons]
   cases hc:(decide ((r.takeWhile fun x=>decide (x.1<n)).length<r.length)&&(r.getD (r.takeWhile fun x=>decide (x.1<n)).length (0,())).1==n) with
   |true=>
    have:(decide ((r.takeWhile fun x=>decide (x.1<n)).length+1<(x::r).length)&&((x::r).getD ((r.takeWhile fun x=>decide (x.1<n)).length+1) (0,())).1==n)=true:=by
     rw [← hc,List.length_cons];simp [List.getD_cons_succ]
    rw [this];rfl
   |false=>
    have:(decide ((r.takeWhile fun x=>decide (x.1<n)).length+1<(x::r).length)&&((x::r).getD ((r.takeWhile fun x=>decide (x.1<n)).length+1) (0,())).1==n)=false:=by
     rw [← hc,List.length_cons];simp [List.getD_cons_succ]
    rw [this];rfl
 · rw [if_neg h,List.takeWhile_cons_of_neg (by simp [h])]
   by_cases e:x.1=n
   · rw [if_pos e];simp [e]
   · rw [if_neg e];simp [beq_eq_false_iff_ne.2 e]
theorem alJ {n:Int}:∀ {l:List (Int×Unit)},FZ l→FZ (Dz l n)∧∀ x,x∈Dz l n↔x=(n,())∨x∈l
 |[],_=>⟨List.pairwise_singleton _ _,fun x=>by show x∈[(n,())]↔_;simp⟩
 |y::r,h=>by
  obtain ⟨h1,h2⟩:=List.pairwise_cons.1 h
  obtain ⟨i1,i2⟩:=alJ (n:=n) h2
  rw [arS]
  by_cases c1:y.1<n
  · rw [if_pos c1]
    refine ⟨List.pairwise_cons.2 ⟨fun z hz=>?_,i1⟩,fun x=>?_⟩
    · rcases (i2 z).1 hz with rfl|hz
      · exact c1
      · exact h1 z hz
    · rw [List.mem_cons,i2,List.mem_cons]
      exact ⟨fun h=>h.elim (fun h=> .inr (.inl h)) fun h=>h.elim .inl fun h=> .inr (.inr h),fun h=>h.elim (fun h=> .inr (.inl h)) fun h=>h.elim .inl fun h=> .inr (.inr h)⟩
  · rw [if_neg c1]
    by_cases c2:y.1=n
    · rw [if_pos c2]
      refine ⟨h,fun x=>⟨.inr,fun hx=>hx.elim (fun e=>?_) id⟩⟩
      rw [e,← c2];exact List.mem_cons_self
    · rw [if_neg c2]
      refine ⟨List.pairwise_cons.2 ⟨fun z hz=>?_,h⟩,fun x=>List.mem_cons⟩
      rcases List.mem_cons.1 hz with rfl|hz
      · show n<z.1;omega
      · have:=h1 z hz;show n<z.1;omega
theorem Qh:∀ (xs:List (Int×Unit)) {l:List (Int×Unit)},FZ l→FZ (rY l xs)∧∀ x,x∈rY l xs↔x∈xs∨x∈l
 |[],l,h=>⟨h,fun x=>by simp [rY]⟩
 |y::r,l,h=>by
  obtain ⟨h1,h2⟩:=alJ (n:=y.1) h
  obtain ⟨i1,i2⟩:=Qh r h1
  refine ⟨i1,fun x=>(i2 x).trans ?_⟩
  rw [h2,List.mem_cons]
  exact ⟨fun h=>h.elim (fun h=> .inl (.inr h)) fun h=>h.elim (fun h=> .inl (.inl h)) .inr,fun h=>h.elim (fun h=>h.elim (fun h=> .inr (.inl h)) .inl) fun h=> .inr (.inr h)⟩
theorem aks:∀ {a b:List (Int×Unit)},FZ a→FZ b→(∀ x,x∈a↔x∈b)→a=b
 |[],[],_,_,_=>rfl
 |[],y::r,_,_,h=>by have:=(h y).2 List.mem_cons_self;cases this
 |x::r,[],_,_,h=>by have:=(h x).1 List.mem_cons_self;cases this
 |x::r,y::s,ha,hb,h=>by
  obtain ⟨a1,a2⟩:=List.pairwise_cons.1 ha
  obtain ⟨b1,b2⟩:=List.pairwise_cons.1 hb
  have e:x=y:=by
   rcases List.mem_cons.1 ((h x).1 List.mem_cons_self) with e|e
   · exact e
   · rcases List.mem_cons.1 ((h y).2 List.mem_cons_self) with e'|e'
     · exact e'.symm
     · have u:=b1 x e
       have v:=a1 y e'
       omega
  subst e
  have:r=s:=aks a2 b2 fun z=>by
   constructor
   · intro hz
     rcases List.mem_cons.1 ((h z).1 (List.mem_cons_of_mem _ hz)) with e|e
     · have:=a1 z hz;rw [e] at this;omega
     · exact e
   · intro hz
     rcases List.mem_cons.1 ((h z).2 (List.mem_cons_of_mem _ hz)) with e|e
     · have:=b1 z hz;rw [e] at this;omega
     · exact e
  rw [this]
theorem aml {a x y:List (Int×Unit)}:FZ (zh a x y)∧∀ z,z∈zh a x y↔z∈x∨(z∈a∧dw y z.1=false):=by
 obtain ⟨h1,h2⟩:=Qh (a.filter fun z=>!dw y z.1) (l:=[]) List.Pairwise.nil
 obtain ⟨g1,g2⟩:=Qh x h1
 refine ⟨g1,fun z=>(g2 z).trans ?_⟩
 rw [h2,List.mem_filter]
 simp
theorem amm {a b:List (Int×Unit)} (hb:FZ b):zh a (without b a) (without a b)=b:=by
 obtain ⟨h1,h2⟩:=aml (a:=a) (x:=without b a) (y:=without a b)
 have hw:∀ (p q:List (Int×Unit)) z,z∈without p q↔z∈p∧dw q z.1=false:=fun p q z=>by
  unfold without
  rw [List.mem_filter]
  simp
 refine aks h1 hb fun z=>?_
 rw [h2,hw]
 have hi:∀ l:List (Int×Unit),dw l z.1=true↔z∈l:=fun l=>BP
 constructor
 · rintro (h|⟨h3,h4⟩)
   · exact h.1
   · refine Classical.byContradiction fun hno=>?_
     have:z∈without a b:=(hw a b z).2 ⟨h3,by rw [Bool.eq_false_iff];exact fun h=>hno ((hi b).1 h)⟩
     rw [(hi (without a b)).2 this] at h4;cases h4
 · intro h
   by_cases ha:z∈a
   · refine .inr ⟨ha,?_⟩
     rw [Bool.eq_false_iff]
     intro h5
     have:=((hw a b z).1 ((hi _).1 h5)).2
     rw [(hi b).2 h] at this;cases this
   · exact .inl ⟨h,by rw [Bool.eq_false_iff];exact fun h5=>ha ((hi a).1 h5)⟩
theorem atI {a b:List (Int×Unit)} (ha:FZ a) (hb:FZ b) (h1:(without b a).length+(without a b).length=0):a=b:=by
 have hw:∀ (p q:List (Int×Unit)),(without p q).length=0→∀ z∈p,z∈q:=fun p q h z hz=>by
  have:=List.length_eq_zero_iff.1 h
  unfold without at this
  rw [List.filter_eq_nil_iff] at this
  have:=this z hz
  simp only [Bool.not_eq_true',Bool.not_eq_false] at this
  exact BP.1 this
 exact aks ha hb fun z=>⟨hw a b (by omega) z,hw b a (by omega) z⟩
theorem asK {d:List aQ} (hd:gB d=true) {a b:List dn} (ha:lM d a) (hb:lM d b) {i:Nat} (hi:i<d.length):
 (wQ a b).filter (fun y=>y.1==nameOf d i)=(bif rX (jR a (jr b i)) then [jR a (jr b i)] else []):=by
 have key:∀ n,n≤b.length→(((b.take n).map (jR a)).filter rX).filter (fun y=>y.1==nameOf d i)=if i<n then (bif rX (jR a (jr b i)) then [jR a (jr b i)] else []) else []:=by
  intro n
  induction n with
  |zero=>intro _;rw [if_neg (by omega)];rfl
  |succ n ih=>
   intro hn
   have hbn:n<b.length:=by omega
   rw [take_succ' b n ([],[],()) hbn,List.map_append,List.filter_append,List.filter_append,ih (by omega)]
   have hname:(jR a (b.getD n ([],[],()))).1=nameOf d n:=hb.2 n (by rw [← hb.1];exact hbn)
   by_cases e:i=n
   · subst e
     rw [if_neg (by omega),if_pos (by omega),List.map_singleton,List.nil_append]
     have hr:b.getD i ([],[],())=jr b i:=rfl
     rw [hr] at hname ⊢
     cases hx:rX (jR a (jr b i)) with
     |true=>rw [List.filter_cons_of_pos hx,List.filter_nil,List.filter_cons_of_pos (by rw [hname];simp)];rfl
     |false=>rw [List.filter_cons_of_neg (by simp [hx])];rfl
   · have hne:nameOf d n≠nameOf d i:=fun h=>e (Em hd (by rw [← hb.1];exact hbn) hi h).symm
     have:((([b.getD n ([],[],())]:List dn).map (jR a)).filter rX).filter (fun y=>y.1==nameOf d i)=[]:=by
      rw [List.filter_eq_nil_iff]
      intro y hy
      have hy:=(List.mem_filter.1 hy).1
      rw [List.map_singleton,List.mem_singleton] at hy
      rw [hy,hname];simpa using hne
     rw [this,List.append_nil]
     by_cases hlt:i<n
     · rw [if_pos hlt,if_pos (by omega)]
     · rw [if_neg hlt,if_neg (by omega)]
 have:=key b.length (Nat.le_refl _)
 rw [List.take_length,if_pos (by rw [hb.1];exact hi)] at this
 exact this
theorem aoK {d:List aQ} (hd:gB d=true) {a b:List dn} (ha:lM d a) (hb:lM d b) (av1:∀ i,i<d.length→FZ (eX a i)) (aun:∀ i,i<d.length→FZ (eX b i)):iE a (wQ a b)=b:=by
 have at_:∀ i,i<d.length→jr (iE a (wQ a b)) i=((jr a i).1,((wQ a b).filter fun y=>y.1==(jr a i).1).foldl (fun l y=>zh l y.2.1 y.2.2.1) (jr a i).2.1,()):=fun i hi=>by
  unfold iE jr
  rw [List.getD_eq_getElem?_getD,List.getElem?_map,List.getD_eq_getElem?_getD,List.getElem?_eq_getElem (by rw [ha.1];exact hi)];rfl
 refine akq (d:=d) ⟨by unfold iE;rw [List.length_map];exact ha.1,fun i hi=>?_⟩ hb fun i hi=>?_
 · rw [at_ i hi];exact ha.2 i hi
 · unfold eX
   rw [at_ i hi]
   show ((wQ a b).filter fun y=>y.1==(jr a i).1).foldl (fun l y=>zh l y.2.1 y.2.2.1) (jr a i).2.1=eX b i
   rw [ha.2 i hi,asK hd ha hb hi]
   have hdf:jR a (jr b i)=(nameOf d i,without (eX b i) (eX a i),without (eX a i) (eX b i),()):=by
    unfold jR
    rw [hb.2 i hi,vC hd ha hi];rfl
   have hz:rX (jR a (jr b i))=decide (0<(without (eX b i) (eX a i)).length+(without (eX a i) (eX b i)).length):=by rw [hdf];rfl
   by_cases h:0<(without (eX b i) (eX a i)).length+(without (eX a i) (eX b i)).length
   · rw [hz,decide_eq_true h,hdf]
     exact amm (aun i hi)
   · rw [hz,decide_eq_false h]
     show eX a i=eX b i
     exact atI (av1 i hi) (aun i hi) (by omega)
theorem atA {s:bV} (h:aB s=true) (q:List bH) (X:BX):FZ (sel s.2.1 q X):=by
 have hp:s.2.1.Pairwise fun f g=>f.1<g.1:=by
  rw [List.pairwise_iff_getElem]
  intro i j hi hj hij
  have at_:∀ k (hk:k<s.2.1.length),fileAt s.2.1 k=s.2.1[k]:=fun k hk=>by unfold fileAt;rw [List.getD_eq_getElem?_getD,List.getElem?_eq_getElem hk];rfl
  have:=Ny h j i hij hj
  rw [at_ i hi,at_ j hj] at this;exact this
 unfold FZ sel
 rw [List.pairwise_map]
 exact List.Pairwise.filter _ hp
end Sp
namespace Sp
open Go
theorem asD {fs:List aN} {d:List aQ} {r out:List dn} (h:gQ fs d r (dF (fJ d)) out):gQ fs d [] (fun _=>true) out:=by
 have e:∀ i,i<d.length→dF (fJ d) (nameOf d i)=true:=fun i hi=>by
  rw [gI]
  unfold fJ
  exact List.mem_map.2 ⟨dV d i,by unfold dV;rw [List.getD_eq_getElem?_getD,List.getElem?_eq_getElem hi];exact List.getElem_mem hi,rfl⟩
 exact Jf h (fun i hi=>e i hi) fun i hi h'=>by rw [e i hi] at h';cases h'
def became (c:jv) (s:bV) (d:List aQ) (ok0:Bool) (c':jv) (df:List tK) (ok:Bool):Prop:=
 ok=ok0∧(ok=true→bJ c'=s∧fF c'=d∧dS c'=true∧df=wQ (jH c) (jH c'))∧(ok=false→c'=c∧df=[])
def asB (c:jv):Prop:=∀ f∈c.2.1,f.2.2.2.2.1.length≤400
theorem asE {c:jv} (h:asB c):SI c:=fun f hf=>Nat.le_trans (h f hf) (by decide)
def yh (c:jv):Prop:=fK c∧asB c∧(fF c).length≤10
end Sp
namespace Go.Fw
open Go
theorem TU {α:Type} {l:List α} {lo:Nat} {news:List α} (h:lo+news.length≤l.length):(dM l lo news).length=l.length:=by
 unfold dM
 simp only [List.length_append,List.length_take,List.length_drop]
 omega
theorem YV {α:Type} {l:List α} {lo k:Nat} {news:List α} (hk:k≤lo) (h:lo≤l.length):(dM l lo news).take k=l.take k:=by
 unfold dM
 rw [List.append_assoc,List.take_append_of_le_length (by rw [List.length_take];omega),List.take_take,Nat.min_eq_left hk]
theorem eqL {α β:Type} (e:α→α→Bool) (he:∀ x y,e x y=false↔x=y) (d:α) (a b:List α) [Decidable (a=b)] (t:β) (hlen:a.length≤maxLen) {K:Bool×Unit→Prop} (hK:K (decide (a=b),())):
 bif ((a.length:Int)) !=(b.length:Int) then K (false,()) else
 ∃ (I:(Int×Unit)×Unit→Prop),∃ (μ:(Int×Unit)×Unit→Nat),I (((0:Int),()),())∧∀ (y:(Int×Unit)×Unit),I y→
   bif decide (y.fst.fst<(a.length:Int)) then
    ((0:Int)≤y.fst.fst∧y.fst.fst<(a.length:Int))∧((0:Int)≤y.fst.fst∧y.fst.fst<(b.length:Int))∧
      (bif e (a.getD (Int.toNat y.fst.fst) d) (b.getD (Int.toNat y.fst.fst) d) then K (false,())
      else t=t∧I ((IntKind.i64.wrap (y.fst.fst+(1:Int)),()),())∧μ ((IntKind.i64.wrap (y.fst.fst+(1:Int)),()),())<μ y)
   else K (true,()):=by
 rw [maxLen_eq] at hlen
 refine af (fun h=>?_) fun h=>?_
 · have h:(a.length:Int)≠b.length:=by simpa using h
   rw [decide_eq_false fun e=>h (by rw [e])] at hK
   exact hK
 · have h:(a.length:Int)=b.length:=by simpa using h
   exact Ru e he d a b t hlen (by omega) (fun e=>by rw [decide_eq_false e] at hK;exact hK) fun e=>by rw [decide_eq_true e] at hK;exact hK
theorem asr {α β:Type} (e:α→α→Bool) (he:∀ x y,e x y=false↔x=y) (d:α) (a b:List α) [Decidable (a=b)] (t:β) (hlen:a.length≤maxLen) {K:Bool×Unit→Prop} (hK:K (decide (a=b),())):
 bif ((a.length:Int)) !=(b.length:Int) then K (false,()) else
 ∃ (I:(Int×Unit)×Unit→Prop),∃ (μ:(Int×Unit)×Unit→Nat),I (((0:Int),()),())∧∀ (y:(Int×Unit)×Unit),I y→
   bif decide (y.fst.fst<(a.length:Int)) then
    ((0:Int)≤y.fst.fst∧y.fst.fst<(a.length:Int))∧((0:Int)≤y.fst.fst∧y.fst.fst<(b.length:Int))∧True∧
      (bif e (a.getD (Int.toNat y.fst.fst) d) (b.getD (Int.toNat y.fst.fst) d) then K (false,())
      else t=t∧I ((IntKind.i64.wrap (y.fst.fst+(1:Int)),()),())∧μ ((IntKind.i64.wrap (y.fst.fst+(1:Int)),()),())<μ y)
   else K (true,()):=by
 rw [maxLen_eq] at hlen
 refine af (fun h=>?_) fun h=>?_
 · have h:(a.length:Int)≠b.length:=by simpa using h
   rw [decide_eq_false fun e=>h (by rw [e])] at hK
   exact hK
 · have h:(a.length:Int)=b.length:=by simpa using h
   exact aex e he d a b t hlen (by omega) (fun e=>by rw [decide_eq_false e] at hK;exact hK) fun e=>by rw [decide_eq_true e] at hK;exact hK
theorem ahr {α β:Type} (p:α→Bool) (d:α) (a:List α) (t:β) (hlen:a.length≤maxLen) {K:Int×Unit→Prop} (hK:K (Sp.findAt p a,())):
 ∃ (I:(Int×Unit)×Unit→Prop),∃ (μ:(Int×Unit)×Unit→Nat),I (((0:Int),()),())∧∀ (y:(Int×Unit)×Unit),I y→
   bif decide (y.fst.fst<(a.length:Int)) then
    ((0:Int)≤y.fst.fst∧y.fst.fst<(a.length:Int))∧True∧
      (bif p (a.getD (Int.toNat y.fst.fst) d) then K (y.fst.fst,())
      else t=t∧I ((IntKind.i64.wrap (y.fst.fst+(1:Int)),()),())∧μ ((IntKind.i64.wrap (y.fst.fst+(1:Int)),()),())<μ y)
   else K ((-1:Int),()):=by
 rw [maxLen_eq] at hlen
 refine iU a.length hlen (fun n=>∀ i,i<n→p (a.getD i d)=false) (fun i hi=>by omega) (fun I μ n hn hJ next=>?_) fun I μ hJ=>?_
 · dsimp only
   refine dh (by omega) ⟨⟨by omega,by omega⟩,trivial,af (fun h=>?_) fun h=>⟨rfl,next fun i hi=>?_⟩⟩
   · rw [Sp.alG hn hJ h] at hK;exact hK
   · rcases Nat.lt_or_ge i n with h'|h'
     · exact hJ i h'
     · have:i=n:=by omega
       rw [this];exact h
 · dsimp only
   refine dm (by omega) ?_
   rw [Sp.adx hJ] at hK;exact hK
theorem aru {α β:Type} (p:α→Bool) (d:α) (a:List α) (t:β) (hlen:a.length≤maxLen) {K:Int×Unit→Prop} (hK:K (Sp.findAt p a,())):
 ∃ (I:(Int×Unit)×Unit→Prop),∃ (μ:(Int×Unit)×Unit→Nat),I (((0:Int),()),())∧∀ (y:(Int×Unit)×Unit),I y→
   bif decide (y.fst.fst<(a.length:Int)) then
    ((0:Int)≤y.fst.fst∧y.fst.fst<(a.length:Int))∧
      (bif p (a.getD (Int.toNat y.fst.fst) d) then K (y.fst.fst,())
      else t=t∧I ((IntKind.i64.wrap (y.fst.fst+(1:Int)),()),())∧μ ((IntKind.i64.wrap (y.fst.fst+(1:Int)),()),())<μ y)
   else K ((-1:Int),()):=by
 obtain ⟨I,μ,h0,h1⟩:=ahr p d a t hlen hK
 refine ⟨I,μ,h0,fun y hy=>?_⟩
 have:=h1 y hy
 revert this
 cases decide (y.fst.fst<(a.length:Int)) with
 |true=>exact fun h=>⟨h.1,h.2.2⟩
 |false=>exact id
theorem atz {α β:Type} (p:α→Bool) (d:α) (s:List α) (t:β) (hlen:s.length≤4611686018427387903) {K:(List α×Unit)×Unit→Prop} (hK:K ((s.filter fun x=>!p x,()),())):
 bif Sp.findAt p s==(-1:Int) then K ((s,()),()) else
 ∃ (I:(Int×Int×Unit)×List α×Unit→Prop),∃ (μ:(Int×Int×Unit)×List α×Unit→Nat),
   I ((Sp.findAt p s,IntKind.i64.wrap (Sp.findAt p s+(1:Int)),()),s,())∧∀ (y:(Int×Int×Unit)×List α×Unit),I y→
     bif decide (y.fst.snd.fst<(↑(List.length y.snd.fst):Int)) then
      ((0:Int)≤y.fst.snd.fst∧y.fst.snd.fst<(↑(List.length y.snd.fst):Int))∧Int.toNat y.fst.snd.fst<List.length y.snd.fst∧True∧
        (bif !p (List.getD y.snd.fst (Int.toNat y.fst.snd.fst) d) then
          ((0:Int)≤y.fst.fst∧y.fst.fst<(↑(List.length y.snd.fst):Int))∧Int.toNat y.fst.fst<List.length y.snd.fst∧t=t∧
            I ((IntKind.i64.wrap (y.fst.fst+(1:Int)),IntKind.i64.wrap (y.fst.snd.fst+(1:Int)),()),List.set y.snd.fst (Int.toNat y.fst.fst) (List.getD y.snd.fst (Int.toNat y.fst.snd.fst) d),())∧
            μ ((IntKind.i64.wrap (y.fst.fst+(1:Int)),IntKind.i64.wrap (y.fst.snd.fst+(1:Int)),()),List.set y.snd.fst (Int.toNat y.fst.fst) (List.getD y.snd.fst (Int.toNat y.fst.snd.fst) d),())<μ y
        else t=t∧I ((y.fst.fst,IntKind.i64.wrap (y.fst.snd.fst+(1:Int)),()),y.snd.fst,())∧μ ((y.fst.fst,IntKind.i64.wrap (y.fst.snd.fst+(1:Int)),()),y.snd.fst,())<μ y)
     else
      (0:Nat)<List.length y.snd.fst∧((0:Int)≤y.fst.fst∧y.fst.fst≤(↑(List.length y.snd.fst):Int))∧
        (0:Nat)+Int.toNat y.fst.fst+(List.length y.snd.fst-Int.toNat y.fst.fst)≤List.length y.snd.fst∧
          ((0:Nat)<(dM y.snd.fst ((0:Nat)+Int.toNat y.fst.fst) (List.replicate (List.length y.snd.fst-Int.toNat y.fst.fst) d)).length∧
            List.length y.snd.fst≤(dM y.snd.fst ((0:Nat)+Int.toNat y.fst.fst) (List.replicate (List.length y.snd.fst-Int.toNat y.fst.fst) d)).length)∧
            ((0:Int)≤y.fst.fst∧y.fst.fst≤(↑(List.take (List.length y.snd.fst) (dM y.snd.fst ((0:Nat)+Int.toNat y.fst.fst) (List.replicate (List.length y.snd.fst-Int.toNat y.fst.fst) d))).length:Int))∧
              K ((List.take (Int.toNat y.fst.fst) (List.take (List.length y.snd.fst) (dM y.snd.fst ((0:Nat)+Int.toNat y.fst.fst) (List.replicate (List.length y.snd.fst-Int.toNat y.fst.fst) d))),()),()):=by
 rcases Sp.ZU p d s with ⟨e,hno⟩|⟨n,hn,e,he,hne⟩
 · rw [e]
   have:s.filter (fun x=>!p x)=s:=List.filter_eq_self.2 fun x hx=>by
    obtain ⟨i,hi,rfl⟩:=List.getElem_of_mem hx
    have:=hno i hi
    rw [List.getD_eq_getElem?_getD,List.getElem?_eq_getElem hi] at this
    exact congrArg Bool.not this
   rw [this] at hK
   exact hK
 · rw [e]
   have e1:(((n:Nat):Int)==-1)=false:=by rw [beq_eq_false_iff_ne];omega
   rw [e1]
   have w1:∀ k:Nat,k≤4611686018427387903→IntKind.i64.wrap ((k:Int)+1)=((k+1:Nat):Int):=fun k hk=>fO _ (by omega)
   rw [w1 n (by omega)]
   refine ⟨fun y=>∃ (i j:Nat) (l:List α),y=(((i:Int),(j:Int),()),l,())∧i<j∧j≤s.length∧l.length=s.length∧l.take i=(s.take j).filter (fun x=>!p x)∧∀ t,j≤t→l.getD t d=s.getD t d,
    fun y=>((s.length:Int)-y.1.2.1).toNat,⟨n,n+1,s,rfl,by omega,by omega,rfl,?_,fun _ _=>rfl⟩,?_⟩
   · rw [Sp.take_succ' s n d hn,List.filter_append,List.filter_cons]
     have h1:(!p (s.getD n d))=false:=congrArg Bool.not he
     rw [h1]
     have h2:(s.take n).filter (fun x=>!p x)=s.take n:=List.filter_eq_self.2 fun x hx=>by
      obtain ⟨i,hi,rfl⟩:=List.getElem_of_mem hx
      have hi':i<n:=by rw [List.length_take] at hi;omega
      have:=hne i hi'
      rw [List.getD_eq_getElem?_getD,List.getElem?_eq_getElem (by omega)] at this
      rw [List.getElem_take]
      exact congrArg Bool.not this
     rw [h2];simp
   · rintro y ⟨i,j,l,rfl,hij,hj,hl,ht,hs⟩
     dsimp only
     refine af (fun h=>?_) fun h=>?_
     · have h:j<s.length:=by have h:=of_decide_eq_true h;omega
       have hsj:=hs j (Nat.le_refl _)
       rw [Int.toNat_natCast,Int.toNat_natCast,hsj,w1 i (by omega),w1 j (by omega)]
       refine ⟨⟨by omega,by omega⟩,by omega,trivial,af (fun h2=>⟨⟨by omega,by omega⟩,by omega,rfl,⟨i+1,j+1,_,rfl,by omega,by omega,by rw [List.length_set];exact hl,?_,fun t ht=>?_⟩,by omega⟩) fun h2=>⟨rfl,⟨i,j+1,l,rfl,by omega,by omega,hl,?_,fun t ht=>hs t (by omega)⟩,by omega⟩⟩
       · rw [Sp.take_succ' _ i d (by rw [List.length_set];omega),Sp.take_succ' s j d h,List.filter_append,List.filter_cons,List.take_set_of_le (Nat.le_refl _),ht]
         have h3:(!p (s.getD j d))=true:=h2
         rw [h3,List.getD_eq_getElem?_getD,List.getElem?_set,if_pos rfl,if_pos (by omega)]
         rfl
       · rw [List.getD_eq_getElem?_getD,List.getElem?_set,if_neg (by omega),← List.getD_eq_getElem?_getD]
         exact hs t (by omega)
       · rw [Sp.take_succ' s j d h,List.filter_append,List.filter_cons,ht]
         have h3:(!p (s.getD j d))=false:=h2
         rw [h3];simp
     · have h:j=s.length:=by have h:=of_decide_eq_false h;omega
       rw [Int.toNat_natCast,Nat.zero_add]
       have l1:(dM l i (List.replicate (l.length-i) d)).length=l.length:=TU (by rw [List.length_replicate];omega)
       refine ⟨by omega,⟨by omega,by omega⟩,by omega,⟨by rw [l1];omega,by rw [l1];omega⟩,⟨by omega,by rw [List.length_take,l1];omega⟩,?_⟩
       rw [List.take_take,Nat.min_eq_left (by omega),YV (Nat.le_refl _) (by omega),ht,h,List.take_length]
       exact hK
end Go.Fw
namespace Go.Fw
open Go
theorem asq {α β:Type} (p:α→Bool) (d:α) (a:List α) (t:β) (hlen:a.length≤maxLen) {K:Bool×Unit→Prop} (hK:K (a.any p,())):
 ∃ (I:(Int×Unit)×Unit→Prop),∃ (μ:(Int×Unit)×Unit→Nat),I (((0:Int),()),())∧∀ (y:(Int×Unit)×Unit),I y→
   bif decide (y.fst.fst<(a.length:Int)) then
    ((0:Int)≤y.fst.fst∧y.fst.fst<(a.length:Int))∧
      (bif p (a.getD (Int.toNat y.fst.fst) d) then K (true,())
      else t=t∧I ((IntKind.i64.wrap (y.fst.fst+(1:Int)),()),())∧μ ((IntKind.i64.wrap (y.fst.fst+(1:Int)),()),())<μ y)
   else K (false,()):=by
 rw [maxLen_eq] at hlen
 refine iU a.length hlen (fun n=>∀ i,i<n→p (a.getD i d)=false) (fun i hi=>by omega) (fun I μ n hn hJ next=>?_) fun I μ hJ=>?_
 · dsimp only
   refine dh (by omega) ⟨⟨by omega,by omega⟩,af (fun h=>?_) fun h=>⟨rfl,next fun i hi=>?_⟩⟩
   · have:a.any p=true:=List.any_eq_true.2 ⟨a.getD n d,by rw [List.getD_eq_getElem?_getD,List.getElem?_eq_getElem hn];exact List.getElem_mem hn,h⟩
     rw [this] at hK;exact hK
   · rcases Nat.lt_or_ge i n with h'|h'
     · exact hJ i h'
     · have:i=n:=by omega
       rw [this];exact h
 · dsimp only
   refine dm (by omega) ?_
   have:a.any p=false:=by
    rw [List.any_eq_false]
    intro x hx
    obtain ⟨i,hi,rfl⟩:=List.getElem_of_mem hx
    have:=hJ i hi
    rw [List.getD_eq_getElem?_getD,List.getElem?_eq_getElem hi] at this
    simpa using this
   rw [this] at hK;exact hK
theorem Ud {α:Type} (p:α→Bool) (s:List α):decide (Sp.findAt p s≥0)=s.any p:=by
 cases hs:s with
 |nil=>rfl
 |cons d r=>
  rw [← hs]
  rcases Sp.ZU p d s with ⟨e,h⟩|⟨n,hn,e,h1,h2⟩
  · rw [e,decide_eq_false (by omega)]
    symm
    rw [List.any_eq_false]
    intro x hx
    obtain ⟨i,hi,rfl⟩:=List.getElem_of_mem hx
    have:=h i hi
    rw [List.getD_eq_getElem?_getD,List.getElem?_eq_getElem hi] at this
    simpa using this
  · rw [e,decide_eq_true (by omega)]
    symm
    exact List.any_eq_true.2 ⟨s.getD n d,by rw [List.getD_eq_getElem?_getD,List.getElem?_eq_getElem hn];exact List.getElem_mem hn,h1⟩
theorem jg {α:Type} (p:α→Bool) (d:α) (l:List α) {n:Nat} (h:n<l.length):(l.take (n+1)).filter p=(l.take n).filter p++(bif p (l.getD n d) then [l.getD n d] else []):=by
 rw [Sp.take_succ' l n d h,List.filter_append,List.filter_cons]
 cases p (l.getD n d)<;>rfl
theorem aeH {α β δ:Type} (p:α→Bool) (g:α→β) (d:α) (a:List α) (t:δ) {A:Int→Prop} (hA:∀ n:Nat,n<a.length→A n) (hlen:a.length≤4000000) {K:List β×Unit→Prop} (hK:K ((a.filter p).map g,())):
 ∃ (I:(Unit×Int×Unit)×List β×Unit→Prop),∃ (μ:(Unit×Int×Unit)×List β×Unit→Nat),I (((),(0:Int),()),[],())∧∀ (y:(Unit×Int×Unit)×List β×Unit),I y→
   bif decide (y.1.2.1<(a.length:Int)) then
    ((0:Int)≤y.1.2.1∧y.1.2.1<(a.length:Int))∧A y.1.2.1∧
      (bif p (a.getD (Int.toNat y.1.2.1) d) then List.length y.2.1+1≤big∧t=t∧I (((),IntKind.i64.wrap (y.1.2.1+(1:Int)),()),y.2.1++[g (a.getD (Int.toNat y.1.2.1) d)],())∧μ (((),IntKind.i64.wrap (y.1.2.1+(1:Int)),()),y.2.1++[g (a.getD (Int.toNat y.1.2.1) d)],())<μ y
      else t=t∧I (((),IntKind.i64.wrap (y.1.2.1+(1:Int)),()),y.2)∧μ (((),IntKind.i64.wrap (y.1.2.1+(1:Int)),()),y.2)<μ y)
   else K y.2:=by
 refine dI (fun i (x:List β)=>(((),i,()),x,())) (fun y=>y.1.2.1) (fun _ _=>rfl) a.length (by omega) (fun n l=>l=((a.take n).filter p).map g) (by simp) (fun I μ n l hn hJ next=>?_) fun I μ l hJ=>?_
 · subst hJ
   have hl:(((a.take n).filter p).map g).length≤n:=by
    have:=List.length_filter_le p (a.take n)
    rw [List.length_map];rw [List.length_take] at this;omega
   have step:=jg p d a hn
   dsimp only
   refine dh (by omega) ⟨⟨by omega,by omega⟩,hA n hn,af (fun h=>⟨by rw [bT];omega,rfl,next _ ?_⟩) fun h=>⟨rfl,next _ ?_⟩⟩
   · have h:p (a.getD n d)=true:=h
     rw [step,h,List.map_append];rfl
   · have h:p (a.getD n d)=false:=h
     rw [step,h,List.map_append];simp
 · subst hJ
   dsimp only
   refine dm (by omega) ?_
   rw [List.take_length];exact hK
theorem anZ {α β δ:Type} (g:α→β) (d:α) (a:List α) (t:δ) (hlen:a.length≤4000000) {K:List β×Unit→Prop} (hK:K (a.map g,())):
 ∃ (I:(Unit×Int×Unit)×List β×Unit→Prop),∃ (μ:(Unit×Int×Unit)×List β×Unit→Nat),I (((),(0:Int),()),[],())∧∀ (y:(Unit×Int×Unit)×List β×Unit),I y→
   bif decide (y.1.2.1<(a.length:Int)) then
    ((0:Int)≤y.1.2.1∧y.1.2.1<(a.length:Int))∧
      List.length y.2.1+1≤big∧t=t∧I (((),IntKind.i64.wrap (y.1.2.1+(1:Int)),()),y.2.1++[g (a.getD (Int.toNat y.1.2.1) d)],())∧μ (((),IntKind.i64.wrap (y.1.2.1+(1:Int)),()),y.2.1++[g (a.getD (Int.toNat y.1.2.1) d)],())<μ y
   else K y.2:=by
 obtain ⟨I,μ,h0,h1⟩:=aeH (fun _=>true) g d a t (A:=fun _=>True) (fun _ _=>trivial) hlen (K:=K) (by rw [List.filter_eq_self.2 fun _ _=>rfl];exact hK)
 refine ⟨I,μ,h0,fun y hy=>?_⟩
 have:=h1 y hy
 revert this
 cases decide (y.1.2.1<(a.length:Int)) with
 |true=>exact fun h=>⟨h.1,h.2.2⟩
 |false=>exact id
end Go.Fw
