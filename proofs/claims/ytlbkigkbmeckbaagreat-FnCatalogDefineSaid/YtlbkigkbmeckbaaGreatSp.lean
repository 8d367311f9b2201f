import Derived.Test.YtlbkigkbmeckbaaGreatFwA
import Derived.Lib.ItoaNum
import Derived.Lib.ItoaLen
import Derived.Lib.Join
import Derived.Test.YtlbkigkbmeckbaaGreatFwC
namespace Sp
open Go
abbrev Bytes:=List UInt8
abbrev LI:=List (Int×Unit)
abbrev LS:=List (Bytes×Unit)
theorem take_succ' {α:Type} (a:List α) (n:Nat) (d:α) (h:n<a.length):a.take (n+1)=a.take n++[a.getD n d]:=by
 rw [List.take_succ_eq_append_getElem h,List.getD_eq_getElem?_getD,List.getElem?_eq_getElem h];rfl
def agl (l:LI):Prop:=∀ x∈l,-9223372036854775808≤x.1∧x.1≤9223372036854775807
theorem agl.take {a:LI} (h:agl a) (n:Nat):agl (a.take n):=fun x hx=>h x (List.mem_of_mem_take hx)
theorem agl.get {a:LI} (h:agl a) {n:Nat} (hn:n<a.length) (d:Int×Unit):(Lib.itoa (a.getD n d).1).length≤21:=by
 have:a.getD n d∈a:=by rw [List.getD_eq_getElem?_getD,List.getElem?_eq_getElem hn,Option.getD_some];exact List.getElem_mem hn
 exact Lib.itoa_length_le _ (h _ this).1 (h _ this).2
end Sp
namespace Sp
open Go
set_option synthInstance.maxSize 100000
set_option synthInstance.maxHeartbeats 1000000
abbrev amd:=Int×Int×Bytes×Unit
abbrev fZ:=Bytes×Int×Int×Bytes×Unit
abbrev bD:=Int×Int×Int×Bytes×Int×Int×Bytes×Unit
abbrev aZ:=Int×Int×Bool×Int×List fZ×Unit
abbrev aH:=Bytes×List bD×Unit
abbrev aiz:=Int×Int×Int×Bool×Int×List fZ×Int×Bytes×List bD×Unit
instance:DecidableEq amd:=inferInstance
instance:DecidableEq fZ:=inferInstance
instance:DecidableEq bD:=inferInstance
instance:DecidableEq aZ:=inferInstance
instance:DecidableEq aH:=inferInstance
instance:DecidableEq (Int×aH):=inferInstance
instance:DecidableEq (List fZ×Int×aH):=inferInstance
instance:DecidableEq (Bool×Int×List fZ×Int×aH):=inferInstance
instance auh:DecidableEq aiz:=(inferInstance:DecidableEq (Int×Int×Int×Bool×Int×List fZ×Int×aH))
instance:DecidableEq (List aiz):=inferInstance
instance:DecidableEq (List aiz×Bytes×Int×Unit):=inferInstance
def lower (s:Bytes):Bool:=s.all fun c=>decide (97≤c.toNat)&&decide (c.toNat≤122)
def iy (s:Bytes):Bool:=lower s&&decide (1≤(s.length:Int))&&decide ((s.length:Int)≤6)
def asq (n:Int):Bool:=decide (0≤n)&&decide (n≤1000000000)
def idxFrom:Int→LI→Int
 |_,[]=>-1
 |k,x::r=>if asq x.1 then idxFrom (k+1) r else k
def idxOf (l:LI):Int:=idxFrom 0 l
end Sp
namespace Sp
open Go
abbrev fV:=Bytes×Int×Unit
abbrev dG:=List fV×List aZ×Int×Unit
instance:DecidableEq fV:=inferInstance
instance:DecidableEq (List fV):=inferInstance
instance:DecidableEq (List aZ):=inferInstance
instance:DecidableEq (List aZ×Int×Unit):=inferInstance
instance auH:DecidableEq dG:=(inferInstance:DecidableEq (List fV×List aZ×Int×Unit))
def usual:List fV:=[([97],1,()),([98],1,()),([110],2,()),([116],2,())]
def pU (f:aZ):Prop:=f.2.2.2.2.1.length≤1000
def bQ (s:dG):Prop:=s.1.length≤1000∧s.2.1.length≤1000∧∀ f∈s.2.1,pU f
def jk (n:Nat) (f:Nat→Bool):Bool:=(List.range n).all f
def jm (s:Bytes):Bool:=lower s&&decide (1≤(s.length:Int))&&decide ((s.length:Int)≤1)
def jv (k n:Int) (s:Bytes):Bool:=
 bif decide (k=0) then decide (n=0)&&decide (s=[])
 else bif decide (k=1) then decide (0≤n)&&decide (n≤999)&&decide (s=[])
 else bif decide (k=2) then iy s&&decide (n=0)
 else false
def kindOf:List fV→Bytes→Int
 |[],_=>0
 |f::r,s=>bif decide (f.1=s) then f.2.1 else kindOf r s
def fieldAt (fs:List fV) (i:Nat):fV:=fs.getD i ([],0,())
def kF (fs:List fV) (i:Nat):Bool:=
 jm (fieldAt fs i).1&&(decide (1≤(fieldAt fs i).2.1)&&decide ((fieldAt fs i).2.1≤2))&&!(decide (0<i)&&!Op.bytesLess (fieldAt fs (i-1)).1 (fieldAt fs i).1)
def eY (fs:List fV):Bool:=jk fs.length (kF fs)&&decide ((fs.length:Int)≤5)
def ja (fs:List fV) (name:Bytes) (k n:Int) (s:Bytes):Bool:=jv k n s&&!decide (k=0)&&decide (k=kindOf fs name)
def bT (as:List fZ) (i:Nat):fZ:=as.getD i ([],0,0,[],())
def jB (fs:List fV) (as:List fZ) (i:Nat):Bool:=
 ja fs (bT as i).1 (bT as i).2.1 (bT as i).2.2.1 (bT as i).2.2.2.1&&!(decide (0<i)&&!Op.bytesLess (bT as (i-1)).1 (bT as i).1)
def jZ (fs:List fV) (as:List fZ):Bool:=jk as.length (jB fs as)
def dO (fs:List fV) (f:aZ):Bool:=
 jZ fs f.2.2.2.2.1&&eY fs&&(decide (1≤f.1)&&decide (f.1≤60))&&(decide (0≤f.2.1)&&decide (f.2.1≤2))&&(decide (0≤f.2.2.2.1)&&decide (f.2.2.2.1≤60))
def fileAt (fs:List aZ) (i:Nat):aZ:=fs.getD i (0,0,false,0,[],())
def jU (s:dG) (i:Nat):Bool:=
 dO s.1 (fileAt s.2.1 i)&&decide ((fileAt s.2.1 i).1<s.2.2.1)&&!(decide (0<i)&&!decide ((fileAt s.2.1 (i-1)).1<(fileAt s.2.1 i).1))
def aJ (s:dG):Bool:=
 jk s.2.1.length (jU s)&&eY s.1&&decide ((s.2.1.length:Int)≤12)&&(decide (1≤s.2.2.1)&&decide (s.2.2.1≤61))
def Aj:Int→List aZ→Int→Int
 |_,[],_=>-1
 |k,f::r,id=>bif decide (f.1=id) then k else Aj (k+1) r id
def place (fs:List aZ) (id:Int):Int:=Aj 0 fs id
def rC (name:Bytes) (b:fZ):Bool:=!(b.1==name)
def uh (name:Bytes) (b:fZ):Bool:=Op.bytesLess b.1 name||b.1==name
def Zn (as:List fZ) (a:fZ):List fZ:=as.takeWhile (uh a.1)++a::as.dropWhile (uh a.1)
def kZ (as:List fZ) (name:Bytes) (k n:Int) (s:Bytes):List fZ:=
 bif decide (k=0) then as.filter (rC name) else Zn (as.filter (rC name)) (name,k,n,s,())
def bZ (s:dG) (f:aZ):dG×Int×Bool:=
 let g:aZ:=(s.2.2.1,f.2)
 bif aJ s&&decide ((s.2.1.length:Int)<12)&&dO s.1 g then ((s.1,s.2.1++[g],s.2.2.1+1,()),s.2.2.1,true) else (s,0,false)
def fA (s:dG) (id:Int):dG×Bool:=
 bif aJ s&&!decide (place s.2.1 id<0) then ((s.1,s.2.1.eraseIdx (place s.2.1 id).toNat,s.2.2.1,()),true) else (s,false)
def CU {α:Type} (p:α→Bool):Int→List α→Int
 |_,[]=>-1
 |k,f::r=>bif p f then k else CU p (k+1) r
def findAt {α:Type} (p:α→Bool) (l:List α):Int:=CU p 0 l
def fieldPlace (l:List fV) (name:Bytes):Int:=findAt (fun f=>f.1==name) l
end Sp
namespace Sp
theorem amj:∀ (n m:Nat) (L:Nat→Nat),(∀ k,k<m→∃ j,j<n∧L j=k)→m≤n
 |0,m,L,h=>by
  rcases Nat.eq_zero_or_pos m with h0|h0
  · omega
  · obtain ⟨j,hj,_⟩:=h 0 h0;omega
 |n+1,m,L,h=>by
  by_cases hv:L n<m
  · have:=amj n (m-1) (fun j=>if L n<L j then L j-1 else L j) fun k hk=>by
     by_cases h1:k<L n
     · obtain ⟨j,hj,e⟩:=h k (by omega)
       have:j≠n:=fun e2=>by subst e2;omega
       exact ⟨j,by omega,by show (if _ then _ else _)=_;rw [if_neg (by omega)];exact e⟩
     · obtain ⟨j,hj,e⟩:=h (k+1) (by omega)
       have:j≠n:=fun e2=>by subst e2;omega
       exact ⟨j,by omega,by show (if _ then _ else _)=_;rw [if_pos (by omega)];omega⟩
    omega
  · have:=amj n m L fun k hk=>by
     obtain ⟨j,hj,e⟩:=h k hk
     have:j≠n:=fun e2=>by subst e2;omega
     exact ⟨j,by omega,e⟩
    omega
abbrev Tm:=List (Nat×Nat×Nat)
def iL (E:Tm) (L:Nat→Nat):Prop:=∀ e∈E,L e.2.1+e.2.2≤L e.1
def aiA (E:Tm) (n:Nat):Prop:=∀ e∈E,e.1<n∧e.2.1<n∧e.2.2≤1
def sumTo (n:Nat) (L:Nat→Nat):Nat:=match n with|0=>0|n+1=>sumTo n L+L n
theorem sumTo_le {L M:Nat→Nat}:∀ n,(∀ i,i<n→L i≤M i)→sumTo n L≤sumTo n M
 |0,_=>Nat.le_refl _
 |n+1,h=>Nat.add_le_add (sumTo_le n fun i hi=>h i (by omega)) (h n (by omega))
theorem amk {L M:Nat→Nat}:∀ n,(∀ i,i<n→L i≤M i)→(∃ i,i<n∧L i<M i)→sumTo n L<sumTo n M
 |0,_,⟨i,hi,_⟩=>by omega
 |n+1,h,⟨i,hi,hl⟩=>by
  have h1:=sumTo_le n fun j hj=>h j (Nat.lt_succ_of_lt hj)
  show sumTo n L+L n<sumTo n M+M n
  by_cases e:i=n
  · subst e;omega
  · have:=amk n (fun j hj=>h j (Nat.lt_succ_of_lt hj)) ⟨i,by omega,hl⟩
    have:=h n (by omega)
    omega
theorem Qs {E:Tm} {n:Nat} (hE:aiA E n):∀ (s:Nat) (L:Nat→Nat),sumTo n L≤s→iL E L→∃ M,iL E M∧∀ i,i<n→M i<n
 |s,L,hs,hL=>by
  by_cases hall:∀ i,i<n→L i<n
  · exact ⟨L,hL,hall⟩
  · obtain ⟨i,hi⟩:=Classical.not_forall.1 hall
    have hi1:i<n∧n≤L i:=by
     by_cases h1:i<n
     · exact ⟨h1,Nat.le_of_not_lt fun h2=>hi fun _=>h2⟩
     · exact (hi fun h2=>(h1 h2).elim).elim
    have aub:∃ k,k<n∧∀ j,j<n→L j≠k:=by
     refine Classical.byContradiction fun hno=>?_
     have:=amj n (n+1) (fun j=>min (L j) n) fun k hk=>by
      by_cases h1:k<n
      · refine Classical.byContradiction fun h2=>hno ⟨k,h1,fun j hj e=>h2 ⟨j,hj,?_⟩⟩
        show min (L j) n=k
        omega
      · exact ⟨i,hi1.1,by show min (L i) n=k;omega⟩
     omega
    obtain ⟨k,hk,hno⟩:=aub
    have hlt:sumTo n (fun j=>if k<L j then L j-1 else L j)<sumTo n L:=by
     refine amk n (fun j _=>?_) ⟨i,hi1.1,?_⟩
     · show (if _ then _ else _)≤_
       split
       · exact Nat.sub_le _ _
       · exact Nat.le_refl _
     · show (if _ then _ else _)<_;rw [if_pos (by omega)];omega
    match s,hs with
    |0,hs=>omega
    |s+1,hs=>
     refine Qs hE s (fun j=>if k<L j then L j-1 else L j) (by omega) fun e he=>?_
     have h1:=hL e he
     obtain ⟨h2,h3,h4⟩:=hE e he
     have n1:=hno e.1 h2
     have n2:=hno e.2.1 h3
     show (if k<L e.2.1 then L e.2.1-1 else L e.2.1)+e.2.2≤(if k<L e.1 then L e.1-1 else L e.1)
     split<;>split<;>omega
theorem Lp {E:Tm} {n:Nat} (hE:aiA E n) (h:∃ L,iL E L):∃ M,iL E M∧∀ i,i<n→M i<n:=by
 obtain ⟨L,hL⟩:=h
 exact Qs hE (sumTo n L) L (Nat.le_refl _) hL
structure Raises (E:Tm) (n:Nat) (R:(Nat→Nat)→Nat→Nat):Prop where
 up:∀ L i,L i≤R L i
 fix:∀ L,(∀ i,i<n→R L i=L i)→iL E L
 below:∀ L M,iL E M→(∀ i,i<n→L i≤M i)→∀ i,i<n→R L i≤M i
 same:∀ L L',(∀ i,i<n→L i=L' i)→∀ i,i<n→R L i=R L' i
end Sp
namespace Sp
open Go
abbrev as5:=List fV×List aZ×Int×List aH×Unit
abbrev asr:=Int×List fV×List aZ×Int×List aH×Int×Unit
instance:DecidableEq (List bD):=inferInstance
instance:DecidableEq aH:=inferInstance
instance:DecidableEq (List aH):=inferInstance
instance:DecidableEq (List aH×Unit):=inferInstance
instance:DecidableEq (Int×List aH×Unit):=inferInstance
instance:DecidableEq (List aZ×Int×List aH×Unit):=inferInstance
instance auO:DecidableEq as5:=(inferInstance:DecidableEq (List fV×List aZ×Int×List aH×Unit))
instance:DecidableEq (List aH×Int×Unit):=inferInstance
instance:DecidableEq (Int×List aH×Int×Unit):=inferInstance
instance:DecidableEq (List aZ×Int×List aH×Int×Unit):=inferInstance
instance:DecidableEq (List fV×List aZ×Int×List aH×Int×Unit):=inferInstance
instance auY:DecidableEq asr:=(inferInstance:DecidableEq (Int×List fV×List aZ×Int×List aH×Int×Unit))
instance:DecidableEq (List asr):=inferInstance
def nodeAt (q:List bD) (i:Nat):bD:=q.getD i (0,0,0,[],0,0,[],())
def jl (n:bD):Bool:=n.1==6||n.1==7
def jh (n:bD):Bool:=n.1==8||n.1==9
def jI (n:bD) (a:Int):Bool:=
 let kids:=decide (0≤n.2.1)&&decide (n.2.1≤a-1)&&decide (0<a)
 let two:=decide (0≤n.2.2.1)&&decide (n.2.2.1≤a-1)
 let bare:=n.2.2.2.1==[]&&(n.2.2.2.2.1==0&&(n.2.2.2.2.2.1==0&&n.2.2.2.2.2.2.1==[]))
 let flat:=n.2.1==0&&n.2.2.1==0
 let valued:=jv n.2.2.2.2.1 n.2.2.2.2.2.1 n.2.2.2.2.2.2.1
 let void:=n.2.2.2.2.1==0&&(n.2.2.2.2.2.1==0&&n.2.2.2.2.2.2.1==[])
 bif n.1==1 then flat&&bare else bif n.1==2 then flat&&void&&jm n.2.2.2.1 else
 bif n.1==3 then flat&&jm n.2.2.2.1&&valued&&!(n.2.2.2.2.1==0) else bif n.1==4 then flat&&jm n.2.2.2.1&&valued&&n.2.2.2.2.1==1 else
 bif n.1==5 then kids&&n.2.2.1==0&&bare else bif n.1==6||n.1==7 then kids&&two&&bare else
 bif n.1==8||n.1==9 then flat&&void&&iy n.2.2.2.1 else false
def refsOf (a:Int) (n:bD):Nat:=(bif (jl n||n.1==5)&&n.2.1==a then 1 else 0)+(bif jl n&&n.2.2.1==a then 1 else 0)
def nH (q:List bD) (a:Int):Nat:=(q.map (refsOf a)).sum
def lS (q:List bD) (i:Nat):Bool:=jI (nodeAt q i) i&&!(decide ((i:Int)<(q.length:Int)-1)&&!(nH q i==1))
def bF (q:List bD):Bool:=jk q.length (lS q)&&(decide (1≤(q.length:Int))&&decide ((q.length:Int)≤9))
def bI (d:List aH) (i:Nat):aH:=d.getD i ([],[],())
def mG (d:List aH) (i:Nat):Bool:=iy (bI d i).1&&bF (bI d i).2.1&&!(decide (0<i)&&!Op.bytesLess (bI d (i-1)).1 (bI d i).1)
def bJ (d:List aH):Bool:=jk d.length (mG d)&&decide ((d.length:Int)≤5)
def jO (q:List bD) (i:Nat) (out:List (Bool×Unit)):List (Bool×Unit):=
 let n:=nodeAt q i
 bif n.1==5 then out.set n.2.1.toNat (true,()) else bif jl n then (out.set n.2.1.toNat ((out.getD i (false,())).1,())).set n.2.2.1.toNat ((out.getD i (false,())).1,()) else out
def iO (q:List bD):Nat→List (Bool×Unit)→List (Bool×Unit)
 |0,out=>out
 |n+1,out=>iO q n (jO q n out)
def negated (q:List bD):List (Bool×Unit):=bif bF q then iO q q.length (List.replicate q.length (false,())) else []
def dZ (q:List bD) (neg:Bool):List Bytes:=(List.range (negated q).length).filterMap fun i=>bif jh (nodeAt q i)&&((negated q).getD i (false,())).1==neg then some (nodeAt q i).2.2.2.1 else none
def Dj:Int→List aH→Bytes→Int
 |_,[],_=>-1
 |k,x::r,s=>bif x.1==s then k else Dj (k+1) r s
def aQ (d:List aH) (s:Bytes):Int:=Dj 0 d s
def dI (d:List aH):Tm:=
 (List.range d.length).flatMap fun i=>
   ((dZ (bI d i).2.1 false).filterMap fun s=>bif decide (0≤aQ d s) then some (i,(aQ d s).toNat,0) else none)++
   ((dZ (bI d i).2.1 true).filterMap fun s=>bif decide (0≤aQ d s) then some (i,(aQ d s).toNat,1) else none)
open Classical in
noncomputable def ax (d:List aH):Bool:=bJ d&&decide (∃ L,iL (dI d) L)
def fB (r:LS) (l:List Bytes):Prop:=r.length≤1000∧∀ s,(s,())∈r↔s∈l
def yL (d:List aH) (aC:List (Int×Unit)) (more:Int):LS→Int
 |[]=>0
 |x::r=>max (bif decide (0≤aQ d x.1) then (aC.getD (aQ d x.1).toNat (0,())).1+more else 0) (yL d aC more r)
def Aq (l:LS) (s:Bytes):LS:=
 let n:=(l.takeWhile fun x=>Op.bytesLess x.1 s).length
 bif decide (n<l.length)&&(l.getD n ([],())).1==s then l else l.take n++[(s,())]++l.drop n
def raised (d:List aH) (aC r:List (Int×Unit)):Prop:=
 r.length=d.length∧(∀ i,i<d.length→(aC.getD i (0,())).1≤(r.getD i (0,())).1)∧(∀ B:Int,(∀ i,i<d.length→(aC.getD i (0,())).1≤B)→∀ i,i<d.length→(r.getD i (0,())).1≤B+5000)∧
 ((∀ i,i<d.length→(r.getD i (0,())).1=(aC.getD i (0,())).1)→iL (dI d) fun i=>(aC.getD i (0,())).1.toNat)∧
 ∀ M,iL (dI d) M→(∀ i,i<d.length→(aC.getD i (0,())).1≤M i)→∀ i,i<d.length→(r.getD i (0,())).1≤M i
def aB (d:List aH):Prop:=d.length≤1000∧∀ x∈d,x.2.1.length≤1000
end Sp
namespace Sp
open Go
end Sp
namespace Sp
open Go
theorem Ym (s:Bytes):∀ (d:List aH) (k:Int),(Dj k d s=-1∧∀ x∈d,x.1≠s)∨∃ n,n<d.length∧Dj k d s=k+n∧(bI d n).1=s∧∀ i,i<n→(bI d i).1≠s
 |[],k=> .inl ⟨rfl,fun x hx=>by cases hx⟩
 |x::r,k=>by
  by_cases h:x.1=s
  · right
    refine ⟨0,by simp,?_,h,fun i hi=>by omega⟩
    rw [Dj,beq_iff_eq.2 h];simp
  · rcases Ym s r (k+1) with ⟨h1,h2⟩|⟨n,h1,h2,h3,h4⟩
    · left
      refine ⟨by rw [Dj,beq_eq_false_iff_ne.2 h];exact h1,fun y hy=>?_⟩
      rcases List.mem_cons.1 hy with rfl|hy
      · exact h
      · exact h2 y hy
    · right
      refine ⟨n+1,by simp;omega,by rw [Dj,beq_eq_false_iff_ne.2 h];show Dj (k+1) r s=_;omega,h3,fun i hi=>?_⟩
      cases i with
      |zero=>exact h
      |succ i=>exact h4 i (by omega)
theorem xG (d:List aH) (s:Bytes):(aQ d s=-1∧∀ x∈d,x.1≠s)∨∃ n,n<d.length∧aQ d s=n∧(bI d n).1=s∧∀ i,i<n→(bI d i).1≠s:=by
 rcases Ym s d 0 with h|⟨n,h1,h2,h3⟩
 · exact .inl h
 · exact .inr ⟨n,h1,by show Dj 0 d s=_;omega,h3⟩
theorem Hw {d:List aH} {s:Bytes} (h:0≤aQ d s):aQ d s<d.length:=by
 rcases xG d s with ⟨h1,_⟩|⟨n,h1,h2,_⟩<;>omega
theorem CJ {d:List aH} {i j m:Nat}:(i,j,m)∈dI d↔i<d.length∧∃ s,((m=0∧s∈dZ (bI d i).2.1 false)∨(m=1∧s∈dZ (bI d i).2.1 true))∧0≤aQ d s∧j=(aQ d s).toNat:=by
 unfold dI
 rw [List.mem_flatMap]
 constructor
 · rintro ⟨k,hk,h⟩
   rw [List.mem_range] at hk
   rcases List.mem_append.1 h with h|h
   all_goals
    obtain ⟨s,hs,e⟩:=List.mem_filterMap.1 h
    rw [cond_eq_ite] at e
    split at e
    · next hp=>
      have hp:0≤aQ d s:=of_decide_eq_true hp
      cases e
      exact ⟨hk,s,by first|exact .inl ⟨rfl,hs⟩|exact .inr ⟨rfl,hs⟩,hp,rfl⟩
    · cases e
 · rintro ⟨hi,s,h|h,hp,rfl⟩
   · obtain ⟨rfl,hs⟩:=h
     refine ⟨i,List.mem_range.2 hi,List.mem_append.2 (.inl (List.mem_filterMap.2 ⟨s,hs,?_⟩))⟩
     rw [decide_eq_true hp];rfl
   · obtain ⟨rfl,hs⟩:=h
     refine ⟨i,List.mem_range.2 hi,List.mem_append.2 (.inr (List.mem_filterMap.2 ⟨s,hs,?_⟩))⟩
     rw [decide_eq_true hp];rfl
theorem kS (d:List aH):aiA (dI d) d.length:=by
 rintro ⟨i,j,m⟩ he
 obtain ⟨h1,s,h2,h3,h4⟩:=CJ.1 he
 have:=Hw h3
 refine ⟨h1,?_,?_⟩
 · show j<_;omega
 · show m≤1;rcases h2 with ⟨h,_⟩|⟨h,_⟩<;>omega
def lv (l:List (Int×Unit)) (i:Nat):Int:=(l.getD i (0,())).1
theorem ama {l:List (Int×Unit)} {i:Nat} (hi:i<l.length) (x:Int) (k:Nat):lv (l.set i (x,())) k=if k=i then x else lv l k:=by
 unfold lv
 rw [List.getD_eq_getElem?_getD,List.getD_eq_getElem?_getD]
 by_cases h:k=i
 · subst h;rw [List.getElem?_set_self hi,if_pos rfl];rfl
 · rw [List.getElem?_set_ne (fun e=>h e.symm),if_neg h]
theorem XQ {l:List (Int×Unit)} {i:Nat} (hi:i<l.length):(lv l i,())∈l:=by
 unfold lv
 rw [List.getD_eq_getElem?_getD,List.getElem?_eq_getElem hi]
 exact List.getElem_mem hi
theorem al9 {l:List (Int×Unit)} {p:Int→Prop} (h:∀ i,i<l.length→p (lv l i)):∀ x∈l,p x.1:=by
 intro x hx
 obtain ⟨i,hi,e⟩:=List.getElem_of_mem hx
 have:=h i hi
 unfold lv at this
 rw [List.getD_eq_getElem?_getD,List.getElem?_eq_getElem hi] at this
 rw [← e];exact this
theorem apR {a b:List (Int×Unit)} (hl:a.length=b.length) (h:∀ i,i<a.length→lv a i=lv b i):a=b:=by
 refine List.ext_getElem hl fun i h1 h2=>?_
 have:=h i h1
 unfold lv at this
 rw [List.getD_eq_getElem?_getD,List.getD_eq_getElem?_getD,List.getElem?_eq_getElem h1,List.getElem?_eq_getElem h2] at this
 exact Prod.ext this rfl
structure Gy (d:List aH) (aC cur:List (Int×Unit)) (g:Int) (P:Nat×Nat×Nat→Prop):Prop where
 len:cur.length=d.length
 up:∀ i,i<d.length→lv aC i≤lv cur i
 grow:∀ B,(∀ i,i<d.length→lv aC i≤B)→∀ i,i<d.length→lv cur i≤B+g
 fix:(∀ i,i<d.length→lv cur i=lv aC i)→∀ e,P e→lv aC e.2.1+e.2.2≤lv aC e.1
 below:∀ M,iL (dI d) M→(∀ i,i<d.length→lv aC i≤M i)→∀ i,i<d.length→lv cur i≤M i
theorem Gy.start {d:List aH} {aC:List (Int×Unit)} (h:aC.length=d.length):Gy d aC aC 0 fun _=>False:=
 ⟨h,fun _ _=>Int.le_refl _,fun B hB i hi=>by have:=hB i hi;omega,fun _ e he=>he.elim,fun _ _ h=>h⟩
theorem Gy.weaken {d:List aH} {aC cur:List (Int×Unit)} {g g':Int} {P P':Nat×Nat×Nat→Prop} (h:Gy d aC cur g P) (hg:g≤g') (hP:∀ e,P' e→P e):Gy d aC cur g' P':=
 ⟨h.len,h.up,fun B hB i hi=>by have:=h.grow B hB i hi;omega,fun hx e he=>h.fix hx e (hP e he),h.below⟩
theorem Gy.still {d:List aH} {aC cur:List (Int×Unit)} {g:Int} {P:Nat×Nat×Nat→Prop} (h:Gy d aC cur g P) {i j m:Nat} (he:(i,j,m)∈dI d) (hle:lv cur j+m≤lv cur i):Gy d aC cur g fun e=>P e∨e=(i,j,m):=by
 obtain ⟨h1,h2,_⟩:=kS d _ he
 refine ⟨h.len,h.up,h.grow,fun hx e hp=>?_,h.below⟩
 rcases hp with hp|rfl
 · exact h.fix hx e hp
 · have a:=hx i h1
   have b:=hx j h2
   show lv aC j+m≤lv aC i
   omega
theorem Gy.set {d:List aH} {aC cur:List (Int×Unit)} {g:Int} {P:Nat×Nat×Nat→Prop} (h:Gy d aC cur g P) {i j m:Nat} (he:(i,j,m)∈dI d) (hlt:lv cur i<lv cur j+m):Gy d aC (cur.set i (lv cur j+m,())) (g+m) fun e=>P e∨e=(i,j,m):=by
 obtain ⟨h1,h2,_⟩:=kS d _ he
 have h1:i<d.length:=h1
 have h2:j<d.length:=h2
 have hl:=h.len
 have hs:=fun k=>ama (l:=cur) (i:=i) (by omega) (lv cur j+m) k
 refine ⟨by simp;omega,fun k hk=>?_,fun B hB k hk=>?_,fun hx e hp=>?_,fun M hM hb k hk=>?_⟩
 · rw [hs];have a:=h.up k hk;split
   · next e=>subst e;omega
   · exact a
 · rw [hs]
   have a:=h.grow B hB k hk
   have b:=h.grow B hB j h2
   split<;>omega
 · have:=hx i h1
   rw [hs,if_pos rfl] at this
   have:=h.up i h1
   omega
 · rw [hs]
   split
   · next e=>
     subst e
     have a:=h.below M hM hb j h2
     have b:=hM _ he
     have b:M j+m≤M k:=b
     omega
   · exact h.below M hM hb k hk
theorem Gy.raised {d:List aH} {aC cur:List (Int×Unit)} {g:Int} {P:Nat×Nat×Nat→Prop} (h:Gy d aC cur g P) (hg:g≤5000) (hP:∀ e∈dI d,P e) (h0:∀ i,i<d.length→0≤lv aC i):raised d aC cur:=by
 refine ⟨h.len,h.up,fun B hB i hi=>by have:=h.grow B hB i hi;show lv cur i≤_;omega,fun hx e he=>?_,h.below⟩
 have a:=h.fix hx e (hP e he)
 obtain ⟨h1,h2,_⟩:=kS d _ he
 have b:=h0 _ h1
 have c:=h0 _ h2
 show (lv aC e.2.1).toNat+e.2.2≤(lv aC e.1).toNat
 omega
theorem agm (d:List aH) (aC:List (Int×Unit)) (hl:aC.length=d.length):∀ (E:Tm),(∀ e∈E,e∈dI d)→∃ cur:List (Int×Unit),cur.length=d.length∧(∀ i,i<d.length→lv aC i≤lv cur i∧(lv cur i=lv aC i∨∃ e∈E,e.1=i∧lv cur i=lv aC e.2.1+e.2.2))∧∀ e∈E,lv aC e.2.1+e.2.2≤lv cur e.1
 |[],_=>⟨aC,hl,fun i hi=>⟨Int.le_refl _, .inl rfl⟩,fun e he=>by cases he⟩
 |e::E,hE=>by
  obtain ⟨cur,h1,h2,h3⟩:=agm d aC hl E fun x hx=>hE x (List.mem_cons_of_mem _ hx)
  obtain ⟨g1,g2,_⟩:=kS d e (hE e List.mem_cons_self)
  by_cases h:lv cur e.1<lv aC e.2.1+e.2.2
  · have hs:=fun k=>ama (l:=cur) (i:=e.1) (by omega) (lv aC e.2.1+e.2.2) k
    refine ⟨cur.set e.1 (lv aC e.2.1+e.2.2,()),by simp;omega,fun i hi=>?_,fun x hx=>?_⟩
    · rw [hs]
      have:=h2 i hi
      split
      · next hi'=>exact ⟨by rw [hi'] at this ⊢;omega, .inr ⟨e,List.mem_cons_self,hi'.symm,rfl⟩⟩
      · refine ⟨this.1,this.2.imp_right fun ⟨x,hx,hy⟩=>⟨x,List.mem_cons_of_mem _ hx,hy⟩⟩
    · rw [hs]
      rcases List.mem_cons.1 hx with rfl|hx
      · rw [if_pos rfl];omega
      · have:=h3 x hx
        split
        · next he=>rw [he] at this;omega
        · exact this
  · refine ⟨cur,h1,fun i hi=>?_,fun x hx=>?_⟩
    · have:=h2 i hi
      exact ⟨this.1,this.2.imp_right fun ⟨x,hx,hy⟩=>⟨x,List.mem_cons_of_mem _ hx,hy⟩⟩
    · rcases List.mem_cons.1 hx with rfl|hx
      · omega
      · exact h3 x hx
theorem am5 (d:List aH) (aC:List (Int×Unit)) (hl:aC.length=d.length) (h0:∀ i,i<d.length→0≤lv aC i):∃ cur,raised d aC cur:=by
 obtain ⟨cur,h1,h2,h3⟩:=agm d aC hl (dI d) fun _ h=>h
 refine ⟨cur,h1,fun i hi=>(h2 i hi).1,fun B hB i hi=>?_,fun hx e he=>?_,fun M hM hb i hi=>?_⟩
 · show lv cur i≤_
   rcases (h2 i hi).2 with h|⟨e,he,rfl,h⟩
   · rw [h];have:=hB i hi;show (aC.getD i (0,())).1≤_;omega
   · obtain ⟨_,g2,g3⟩:=kS d e he
     have:lv aC e.2.1≤B:=hB _ g2
     omega
 · obtain ⟨g1,g2,_⟩:=kS d e he
   have a:=h3 e he
   have b:=h0 _ g1
   have c:=h0 _ g2
   have x:lv cur e.1=lv aC e.1:=hx _ g1
   show (lv aC e.2.1).toNat+e.2.2≤(lv aC e.1).toNat
   omega
 · show lv cur i≤_
   rcases (h2 i hi).2 with h|⟨e,he,rfl,h⟩
   · rw [h];exact hb i hi
   · obtain ⟨_,g2,_⟩:=kS d e he
     have a:lv aC e.2.1≤M e.2.1:=hb _ g2
     have b:=hM e he
     omega
theorem EN {d:List aH} {aC:List (Int×Unit)} {more:Int}:∀ (r:LS) (B:Int),yL d aC more r≤B↔0≤B∧∀ x∈r,0≤aQ d x.1→lv aC (aQ d x.1).toNat+more≤B
 |[],B=>by simp [yL]
 |x::r,B=>by
  have ih:=EN (d:=d) (aC:=aC) (more:=more) r B
  rw [yL]
  have e:∀ a b:Int,max a b≤B↔a≤B∧b≤B:=fun a b=>by omega
  rw [e,ih]
  simp only [List.mem_cons,forall_eq_or_imp]
  by_cases h:0≤aQ d x.1
  · rw [decide_eq_true h]
    show lv aC _+more≤B∧_↔_
    constructor
    · exact fun ⟨a,b,c⟩=>⟨b,fun _=>a,c⟩
    · exact fun ⟨a,b,c⟩=>⟨b h,a,c⟩
  · rw [decide_eq_false h]
    show (0:Int)≤B∧_↔_
    constructor
    · exact fun ⟨a,b,c⟩=>⟨b,fun h'=>(h h').elim,c⟩
    · exact fun ⟨a,b,c⟩=>⟨a,a,c⟩
def yV (l:List (Int×Unit)):Nat→Int
 |0=>0
 |n+1=>yV l n+lv l n
theorem ac4 {a b:List (Int×Unit)}:∀ n,(∀ i,i<n→lv a i≤lv b i)→yV a n≤yV b n
 |0,_=>Int.le_refl _
 |n+1,h=>Int.add_le_add (ac4 n fun i hi=>h i (by omega)) (h n (by omega))
theorem ac3 {a b:List (Int×Unit)}:∀ n,(∀ i,i<n→lv a i≤lv b i)→(∃ i,i<n∧lv a i<lv b i)→yV a n<yV b n
 |0,_,⟨i,hi,_⟩=>by omega
 |n+1,h,⟨i,hi,hl⟩=>by
  have h1:=ac4 n fun j hj=>h j (Nat.lt_succ_of_lt hj)
  show yV a n+lv a n<yV b n+lv b n
  by_cases e:i=n
  · subst e;omega
  · have:=ac3 n (fun j hj=>h j (Nat.lt_succ_of_lt hj)) ⟨i,by omega,hl⟩
    have:=h n (by omega)
    omega
theorem Ou {a:List (Int×Unit)} {b:Nat}:∀ n:Nat,(∀ i,i<n→lv a i≤b)→yV a n≤(n*b:Nat)
 |0,_=>by simp [yV]
 |n+1,h=>by
  have h1:=Ou n fun i hi=>h i (Nat.lt_succ_of_lt hi)
  have h2:=h n (by omega)
  show yV a n+lv a n≤((n+1)*b:Nat)
  rw [Nat.succ_mul];omega
theorem XI {a:List (Int×Unit)}:∀ n:Nat,(∀ i,i<n→0≤lv a i)→0≤yV a n
 |0,_=>Int.le_refl _
 |n+1,h=>Int.add_nonneg (XI n fun i hi=>h i (by omega)) (h n (by omega))
theorem mF {d:List aH}:ax d=true↔bJ d=true∧∃ L,iL (dI d) L:=by
 unfold ax
 simp
theorem RX {d:List aH} (h:bJ d=true):d.length≤5:=by
 unfold bJ at h
 simp only [Bool.and_eq_true,decide_eq_true_eq] at h
 omega
end Sp
namespace Sp
abbrev Ext (ι α:Type):=ι→α→Bool
structure Sys (ι α:Type) where
 T:ι→Ext ι α→α→Prop
 pos:ι→ι→Prop
 neg:ι→ι→Prop
 mono:∀ i X Y,(∀ j,pos i j→∀ x,X j x=true→Y j x=true)→(∀ j,neg i j→∀ x,X j x=Y j x)→∀ x,T i X x→T i Y x
def akZ {ι α:Type} (S:Sys ι α) (N:ι→Prop) (aC:ι→Nat):Prop:=∀ i j,N i→N j→(S.pos i j→aC j≤aC i)∧(S.neg i j→aC j<aC i)
structure Eval {ι α:Type} (S:Sys ι α) (N:ι→Prop) (aC:ι→Nat) (X:Ext ι α):Prop where
 fix:∀ i,N i→∀ x,X i x=true↔S.T i X x
 least:∀ k (Y:Ext ι α),(∀ i,¬ (N i∧aC i=k)→∀ x,Y i x=X i x)→(∀ i,N i→aC i=k→∀ x,S.T i Y x→Y i x=true)→∀ i,N i→aC i=k→∀ x,X i x=true→Y i x=true
open Classical in
theorem anN {ι α:Type} {P:ι→Prop} {A B:Ext ι α}:∃ Y:Ext ι α,(∀ i x,Y i x=true↔A i x=true∧(P i→B i x=true))∧∀ i,¬ P i→∀ x,Y i x=A i x:=by
 have h:∀ i x,decide (A i x=true∧(P i→B i x=true))=true↔A i x=true∧(P i→B i x=true):=fun i x=>decide_eq_true_iff
 refine ⟨fun i x=>decide (A i x=true∧(P i→B i x=true)),h,fun i hi x=>?_⟩
 rw [Bool.eq_iff_iff,h]
 exact ⟨fun h=>h.1,fun h=>⟨h,fun h'=>(hi h').elim⟩⟩
theorem OG {ι α:Type} {S1 S2:Sys ι α} {N1 N2 U:ι→Prop} {l1 l2:ι→Nat} {X1 X2:Ext ι α}
 (h1:Eval S1 N1 l1 X1) (h2:Eval S2 N2 l2 X2) (s1:akZ S1 N1 l1) (s2:akZ S2 N2 l2) (u1:∀ i,U i→N1 i) (u2:∀ i,U i→N2 i)
 (hT:∀ i,U i→∀ X x,S1.T i X x↔S2.T i X x) (hp:∀ i,U i→∀ j,S2.pos i j→S1.pos i j) (hn:∀ i,U i→∀ j,S2.neg i j→S1.neg i j)
 (hc:∀ i,U i→∀ j,S1.pos i j∨S1.neg i j→U j∨∀ x,X1 j x=X2 j x):∀ i,U i→∀ x,X1 i x=X2 i x:=by
 have key:∀ k,∀ i,U i→l1 i=k→∀ x,X1 i x=X2 i x:=by
  intro k
  induction k using Nat.strongRecOn with
  |_ k ih=>
   have below:∀ j,U j→l1 j<k→∀ x,X1 j x=X2 j x:=fun j hj hl=>ih (l1 j) hl j hj rfl
   have as6:∀ i,U i→l1 i=k→∀ x,X1 i x=true→X2 i x=true:=by
    obtain ⟨Y,hY,WX⟩:=anN (P:=fun i=>U i∧l1 i=k) (A:=X1) (B:=X2)
    have:=h1.least k Y (fun i hi=>WX i fun h=>hi ⟨u1 i h.1,h.2⟩) fun i hN hl x hx=>by
     have aml:∀ j,S1.neg i j→∀ x,Y j x=X1 j x:=fun j hj=>WX j fun h=>by
      have:=(s1 i j hN (u1 j h.1)).2 hj;omega
     refine (hY i x).2 ⟨(h1.fix i hN x).2 (S1.mono i Y X1 (fun j _ y hy=>((hY j y).1 hy).1) aml x hx),fun hU=>?_⟩
     refine (h2.fix i (u2 i hU.1) x).2 ((hT i hU.1 X2 x).1 (S1.mono i Y X2 (fun j hj y hy=>?_) (fun j hj y=>?_) x hx))
     · have hy:=(hY j y).1 hy
       rcases hc i hU.1 j (.inl hj) with h|h
       · have hl2:=(s1 i j hN (u1 j h)).1 hj
         rcases Nat.lt_or_ge (l1 j) k with h3|h3
         · rw [← below j h h3];exact hy.1
         · exact hy.2 ⟨h,by omega⟩
       · rw [← h];exact hy.1
     · rw [aml j hj]
       rcases hc i hU.1 j (.inr hj) with h|h
       · exact below j h (by have:=(s1 i j hN (u1 j h)).2 hj;omega) y
       · exact h y
    exact fun i hU hl x hx=>((hY i x).1 (this i (u1 i hU) hl x hx)).2 ⟨hU,hl⟩
   have as7:∀ m,∀ i,U i→l1 i=k→l2 i=m→∀ x,X2 i x=true→X1 i x=true:=by
    intro m
    induction m using Nat.strongRecOn with
    |_ m ih2=>
     obtain ⟨Y,hY,WX⟩:=anN (P:=fun i=>U i∧l1 i=k∧l2 i=m) (A:=X2) (B:=X1)
     have:=h2.least m Y (fun i hi=>WX i fun h=>hi ⟨u2 i h.1,h.2.2⟩) fun i hN hl x hx=>by
      have aml:∀ j,S2.neg i j→∀ x,Y j x=X2 j x:=fun j hj=>WX j fun h=>by
       have:=(s2 i j hN (u2 j h.1)).2 hj;omega
      refine (hY i x).2 ⟨(h2.fix i hN x).2 (S2.mono i Y X2 (fun j _ y hy=>((hY j y).1 hy).1) aml x hx),fun hU=>?_⟩
      refine (h1.fix i (u1 i hU.1) x).2 ((hT i hU.1 X1 x).2 (S2.mono i Y X1 (fun j hj y hy=>?_) (fun j hj y=>?_) x hx))
      · have hy:=(hY j y).1 hy
        have hj1:=hp i hU.1 j hj
        rcases hc i hU.1 j (.inl hj1) with h|h
        · have g1:=(s1 i j (u1 i hU.1) (u1 j h)).1 hj1
          have g2:=(s2 i j hN (u2 j h)).1 hj
          rcases Nat.lt_or_ge (l1 j) k with h3|h3
          · rw [below j h h3];exact hy.1
          · rcases Nat.lt_or_ge (l2 j) m with h4|h4
            · exact ih2 (l2 j) h4 j h (by omega) rfl y hy.1
            · exact hy.2 ⟨h,by omega,by omega⟩
        · rw [h];exact hy.1
      · rw [aml j hj]
        have hj1:=hn i hU.1 j hj
        rcases hc i hU.1 j (.inr hj1) with h|h
        · exact (below j h (by have:=(s1 i j (u1 i hU.1) (u1 j h)).2 hj1;omega) y).symm
        · exact (h y).symm
     exact fun i hU hl1 hl2 x hx=>((hY i x).1 (this i (u2 i hU) hl2 x hx)).2 ⟨hU,hl1,hl2⟩
   exact fun i hU hl x=>Bool.eq_iff_iff.2 ⟨as6 i hU hl x,as7 (l2 i) i hU hl rfl x⟩
 exact fun i hU x=>key (l1 i) i hU rfl x
end Sp
namespace Sp
open Go
abbrev dn:=Bytes×List (Int×Unit)×Unit
abbrev BX:=Ext Bytes Int
def gu:List fZ→Bytes→amd
 |[],_=>(0,0,[],())
 |a::r,s=>bif a.1==s then (a.2.1,a.2.2.1,a.2.2.2.1,()) else gu r s
def eU:List dn→Bytes→List (Int×Unit)
 |[],_=>[]
 |x::r,s=>bif x.1==s then x.2.1 else eU r s
def eH (l:List (Int×Unit)) (x:Int):Bool:=l.any fun y=>y.1==x
def aY (r:List dn):BX:=fun s x=>eH (eU r s) x
theorem EP {l:List (Int×Unit)} {x:Int}:eH l x=true↔(x,())∈l:=by
 unfold eH
 rw [List.any_eq_true]
 exact ⟨fun ⟨y,hy,h⟩=>by rw [← beq_iff_eq.1 h];exact hy,fun h=>⟨_,h,beq_iff_eq.2 rfl⟩⟩
def jc (n:bD) (f:aZ) (X:BX):Bool:=
 bif n.1==2 then !((gu f.2.2.2.2.1 n.2.2.2.1).1==0) else
 bif n.1==3 then decide (gu f.2.2.2.2.1 n.2.2.2.1=(n.2.2.2.2.1,n.2.2.2.2.2.1,n.2.2.2.2.2.2.1,())) else
 bif n.1==4 then (gu f.2.2.2.2.1 n.2.2.2.1).1==1&&decide ((gu f.2.2.2.2.1 n.2.2.2.1).2.1<n.2.2.2.2.2.1) else
 bif n.1==8 then X n.2.2.2.1 f.1 else
 bif n.1==9 then !(f.2.2.2.1==0)&&X n.2.2.2.1 f.2.2.2.1 else true
def val (q:List bD) (f:aZ) (X:BX) (a:Nat):Bool:=
 if (nodeAt q a).1=5 then (if h:(nodeAt q a).2.1.toNat<a then !val q f X (nodeAt q a).2.1.toNat else true)
 else if (nodeAt q a).1=6 then (if h:(nodeAt q a).2.1.toNat<a∧(nodeAt q a).2.2.1.toNat<a then val q f X (nodeAt q a).2.1.toNat&&val q f X (nodeAt q a).2.2.1.toNat else true)
 else if (nodeAt q a).1=7 then (if h:(nodeAt q a).2.1.toNat<a∧(nodeAt q a).2.2.1.toNat<a then val q f X (nodeAt q a).2.1.toNat||val q f X (nodeAt q a).2.2.1.toNat else true)
 else jc (nodeAt q a) f X
termination_by a
decreasing_by all_goals omega
theorem P7 (q:List bD) (f:aZ) (X:BX) (a:Nat):val q f X a=
 if (nodeAt q a).1=5 then (if h:(nodeAt q a).2.1.toNat<a then !val q f X (nodeAt q a).2.1.toNat else true)
 else if (nodeAt q a).1=6 then (if h:(nodeAt q a).2.1.toNat<a∧(nodeAt q a).2.2.1.toNat<a then val q f X (nodeAt q a).2.1.toNat&&val q f X (nodeAt q a).2.2.1.toNat else true)
 else if (nodeAt q a).1=7 then (if h:(nodeAt q a).2.1.toNat<a∧(nodeAt q a).2.2.1.toNat<a then val q f X (nodeAt q a).2.1.toNat||val q f X (nodeAt q a).2.2.1.toNat else true)
 else jc (nodeAt q a) f X:=by rw [val]
def mP (q:List bD) (f:aZ) (X:BX):Bool:=bF q&&val q f X (q.length-1)
def sel (fs:List aZ) (q:List bD) (X:BX):List (Int×Unit):=(fs.filter fun f=>mP q f X).map fun f=>(f.1,())
def AX (q:List bD) (i:Nat):Bool:=((negated q).getD i (false,())).1
theorem Lu {q:List bD} (h:bF q=true) {i:Nat} (hi:i<q.length):jI (nodeAt q i) i=true∧((i:Int)<(q.length:Int)-1→nH q i=1):=by
 unfold bF at h
 rw [Bool.and_eq_true] at h
 have h1:lS q i=true:=by
  have:=h.1
  unfold jk at this
  exact List.all_eq_true.1 this i (List.mem_range.2 hi)
 unfold lS at h1
 rw [Bool.and_eq_true] at h1
 refine ⟨h1.1,fun hl=>?_⟩
 have h2:=h1.2
 rw [decide_eq_true hl] at h2
 simpa using h2
theorem D7 {q:List bD} (h:bF q=true):1≤q.length∧q.length≤9:=by
 unfold bF at h
 simp only [Bool.and_eq_true,decide_eq_true_eq] at h
 omega
theorem abJ {n:bD} {a:Nat} (h:jI n a=true) (hn:n.1=5∨n.1=6∨n.1=7):0≤n.2.1∧n.2.1.toNat<a:=by
 unfold jI at h
 rcases hn with e|e|e<;>simp [e] at h<;>omega
theorem JU {n:bD} {a:Nat} (h:jI n a=true) (hn:n.1=6∨n.1=7):0≤n.2.2.1∧n.2.2.1.toNat<a:=by
 unfold jI at h
 rcases hn with e|e<;>simp [e] at h<;>omega
theorem anO {α:Type} (g:α→Nat):∀ (l:List α),(l.map g).sum=1→∀ i j,i<l.length→j<l.length→i≠j→∀ d,1≤g (l.getD i d)→g (l.getD j d)=0
 |[],_,i,_,hi,_,_,_,_=>by simp at hi
 |x::r,h,i,j,hi,hj,hne,d,hg=>by
  rw [List.map_cons,List.sum_cons] at h
  have mem:∀ (l:List α) k,k<l.length→g (l.getD k d)≤(l.map g).sum:=by
   intro l
   induction l with
   |nil=>intro k hk;simp at hk
   |cons y t ih=>
    intro k hk
    rw [List.map_cons,List.sum_cons]
    cases k with
    |zero=>exact Nat.le_add_right _ _
    |succ k=>exact Nat.le_trans (ih k (by simpa using hk)) (Nat.le_add_left _ _)
  cases i with
  |zero=>
   cases j with
   |zero=>exact (hne rfl).elim
   |succ j=>
    have h1:1≤g x:=hg
    have:=mem r j (by simpa using hj)
    show g (r.getD j d)=0
    omega
  |succ i=>
   have h1:1≤g (r.getD i d):=hg
   have h2:=mem r i (by simpa using hi)
   cases j with
   |zero=>show g x=0;omega
   |succ j=>exact anO g r (by omega) i j (by simpa using hi) (by simpa using hj) (by omega) d hg
theorem F6 {q:List bD} {p:Nat}:∀ (n:Nat) (out:List (Bool×Unit)),(∀ i,i<n→((nodeAt q i).1=5∨jl (nodeAt q i)=true→(nodeAt q i).2.1.toNat≠p)∧(jl (nodeAt q i)=true→(nodeAt q i).2.2.1.toNat≠p))→
 (iO q n out).getD p (false,())=out.getD p (false,())
 |0,_,_=>rfl
 |n+1,out,h=>by
  have ih:=F6 n (jO q n out) fun i hi=>h i (by omega)
  show (iO q n (jO q n out)).getD p (false,())=_
  rw [ih]
  have hs:∀ (l:List (Bool×Unit)) k x,k≠p→(l.set k x).getD p (false,())=l.getD p (false,()):=fun l k x hk=>by
   rw [List.getD_eq_getElem?_getD,List.getElem?_set_ne hk,← List.getD_eq_getElem?_getD]
  obtain ⟨h1,h2⟩:=h n (by omega)
  unfold jO
  dsimp only
  cases e5:((nodeAt q n).1==5) with
  |true=>exact hs _ _ _ (h1 (.inl (beq_iff_eq.1 e5)))
  |false=>
   cases e2:jl (nodeAt q n) with
   |true=>exact (hs _ _ _ (h2 e2)).trans (hs _ _ _ (h1 (.inr e2)))
   |false=>rfl
theorem D9 (q:List bD):∀ (n:Nat) (out:List (Bool×Unit)),(iO q n out).length=out.length
 |0,_=>rfl
 |n+1,out=>by
  show (iO q n (jO q n out)).length=_
  rw [D9 q n]
  unfold jO
  dsimp only
  cases (nodeAt q n).1==5<;>cases jl (nodeAt q n)<;>simp
theorem yX {n:bD}:jl n=true↔n.1=6∨n.1=7:=by
 unfold jl;simp
theorem Ut (q:List bD):∀ (k m:Nat) (out:List (Bool×Unit)),∃ mid:List (Bool×Unit),mid.length=out.length∧iO q (m+k) out=iO q m mid
 |0,_,out=>⟨out,rfl,rfl⟩
 |k+1,m,out=>by
  obtain ⟨mid,h1,h2⟩:=Ut q k m (jO q (m+k) out)
  have hl:(jO q (m+k) out).length=out.length:=by
   unfold jO
   dsimp only
   cases (nodeAt q (m+k)).1==5<;>cases jl (nodeAt q (m+k))<;>simp
  exact ⟨mid,h1.trans hl,h2⟩
theorem Ls {q:List bD} (h:bF q=true) {i:Nat} (hi:i<q.length):((nodeAt q i).1=5∨jl (nodeAt q i)=true→0≤(nodeAt q i).2.1∧(nodeAt q i).2.1.toNat<i)∧(jl (nodeAt q i)=true→0≤(nodeAt q i).2.2.1∧(nodeAt q i).2.2.1.toNat<i):=by
 have h1:=(Lu h hi).1
 refine ⟨fun h2=>?_,fun h2=>JU h1 (yX.1 h2)⟩
 rcases h2 with h2|h2
 · exact abJ h1 (.inl h2)
 · exact abJ h1 (.inr (yX.1 h2))
theorem aoS {q:List bD} (h:bF q=true) {i j p:Nat} (hi:i<q.length) (hj:j<q.length) (hne:i≠j) (hp:p<i) (hr:1≤refsOf p (nodeAt q i)):refsOf p (nodeAt q j)=0:=
 anO (refsOf p) q ((Lu h (by omega)).2 (by omega)) i j hi hj hne _ hr
theorem am6 {p:Nat} {n:bD} (h:refsOf p n=0) (h0:((n.1=5∨jl n=true)→0≤n.2.1)∧(jl n=true→0≤n.2.2.1)):(n.1=5∨jl n=true→n.2.1.toNat≠p)∧(jl n=true→n.2.2.1.toNat≠p):=by
 unfold refsOf at h
 refine ⟨fun h1 h2=>?_,fun h1 h2=>?_⟩
 · have h3:=h0.1 h1
   have h4:((jl n||n.1==5)&&n.2.1==(p:Int))=true:=by
    have:(jl n||n.1==5)=true:=by rcases h1 with h1|h1<;>simp [h1]
    rw [this];simp;omega
   rw [h4] at h
   simp at h
 · have h3:=h0.2 h1
   have h4:(jl n&&n.2.2.1==(p:Int))=true:=by
    rw [h1];simp;omega
   rw [h4] at h
   simp at h
theorem abK {p:Nat} {n:bD} (h:n.1=5∨jl n=true) (h0:0≤n.2.1) (e:n.2.1.toNat=p):1≤refsOf p n:=by
 unfold refsOf
 have h4:((jl n||n.1==5)&&n.2.1==(p:Int))=true:=by
  have:(jl n||n.1==5)=true:=by rcases h with h1|h1<;>simp [h1]
  rw [this];simp;omega
 rw [h4];simp
theorem amm {p:Nat} {n:bD} (h:jl n=true) (h0:0≤n.2.2.1) (e:n.2.2.1.toNat=p):1≤refsOf p n:=by
 unfold refsOf
 have h4:(jl n&&n.2.2.1==(p:Int))=true:=by rw [h];simp;omega
 rw [h4];simp
theorem Tn {l:List (Bool×Unit)} {k p:Nat} {x:Bool×Unit} (hk:k<l.length):(l.set k x).getD p (false,())=if k=p then x else l.getD p (false,()):=by
 rw [List.getD_eq_getElem?_getD,List.getElem?_set]
 by_cases h:k=p
 · subst h;simp [hk]
 · simp [h]
theorem aoT {q:List bD} (h:bF q=true) {i:Nat} (hi:i<q.length):
 ((nodeAt q i).1=5→AX q (nodeAt q i).2.1.toNat=true)∧(jl (nodeAt q i)=true→AX q (nodeAt q i).2.1.toNat=AX q i∧AX q (nodeAt q i).2.2.1.toNat=AX q i):=by
 have hn:negated q=iO q q.length (List.replicate q.length (false,())):=by unfold negated;rw [h];rfl
 obtain ⟨mid,hm1,hm2⟩:=Ut q (q.length-(i+1)) (i+1) (List.replicate q.length (false,()))
 rw [show i+1+(q.length-(i+1))=q.length by omega,← hn] at hm2
 have hml:mid.length=q.length:=by rw [hm1];simp
 have hm3:negated q=iO q i (jO q i mid):=hm2
 obtain ⟨k1,k2⟩:=Ls h hi
 have keep:∀ p,p<i→1≤refsOf p (nodeAt q i)→AX q p=((jO q i mid).getD p (false,())).1:=fun p hp hr=>by
  unfold AX
  rw [hm3,F6 i]
  intro j hj
  have hjl:j<q.length:=by omega
  obtain ⟨g1,g2⟩:=Ls h hjl
  exact am6 (aoS h hi hjl (by omega) hp hr) ⟨fun z=>(g1 z).1,fun z=>(g2 z).1⟩
 have self:AX q i=(mid.getD i (false,())).1:=by
  unfold AX
  rw [hm2,F6 (i+1)]
  intro j hj
  obtain ⟨g1,g2⟩:=Ls h (show j<q.length by omega)
  exact ⟨fun z=>by have:=(g1 z).2;omega,fun z=>by have:=(g2 z).2;omega⟩
 refine ⟨fun h5=>?_,fun h2=>?_⟩
 · obtain ⟨a,b⟩:=k1 (.inl h5)
   rw [keep _ b (abK (.inl h5) a rfl)]
   unfold jO
   dsimp only
   rw [beq_iff_eq.2 h5]
   show ((mid.set _ (true,())).getD _ (false,())).1=true
   rw [Tn (by omega),if_pos rfl]
 · obtain ⟨a,b⟩:=k1 (.inr h2)
   obtain ⟨a',b'⟩:=k2 h2
   have h5:((nodeAt q i).1==5)=false:=by
    rcases yX.1 h2 with e|e<;>rw [e]<;>rfl
   rw [keep _ b (abK (.inr h2) a rfl),keep _ b' (amm h2 a' rfl),self]
   unfold jO
   dsimp only
   rw [h5,h2]
   show (((mid.set _ ((mid.getD i (false,())).1,())).set _ ((mid.getD i (false,())).1,())).getD _ (false,())).1=_∧(((mid.set _ ((mid.getD i (false,())).1,())).set _ ((mid.getD i (false,())).1,())).getD _ (false,())).1=_
   rw [Tn (by rw [List.length_set];omega),Tn (by omega),Tn (by rw [List.length_set];omega),if_pos rfl,if_pos rfl]
   exact ⟨by split<;>rfl,rfl⟩
theorem aoU {q:List bD} (h:bF q=true):AX q (q.length-1)=false:=by
 have hn:negated q=iO q q.length (List.replicate q.length (false,())):=by unfold negated;rw [h];rfl
 have hl:=D7 h
 unfold AX
 rw [hn,F6 q.length]
 · rw [List.getD_eq_getElem?_getD,List.getElem?_replicate];split<;>rfl
 · intro j hj
   obtain ⟨g1,g2⟩:=Ls h hj
   exact ⟨fun z=>by have:=(g1 z).2;omega,fun z=>by have:=(g2 z).2;omega⟩
theorem amn {q:List bD} (h:bF q=true) {i:Nat} (hi:i<q.length) (hd:jh (nodeAt q i)=true):(nodeAt q i).2.2.2.1∈dZ q (AX q i):=by
 have hl:(negated q).length=q.length:=by unfold negated;rw [h];show (iO _ _ _).length=_;rw [D9];simp
 unfold dZ
 rw [List.mem_filterMap]
 refine ⟨i,List.mem_range.2 (by omega),?_⟩
 unfold AX
 rw [hd];simp
theorem aqJ {q:List bD} {f:aZ} {X Y:BX} (h:bF q=true) (hp:∀ s∈dZ q false,∀ x,X s x=true→Y s x=true) (hn:∀ s∈dZ q true,∀ x,X s x=Y s x):
 ∀ a,a<q.length→(AX q a=false→val q f X a=true→val q f Y a=true)∧(AX q a=true→val q f X a=val q f Y a):=by
 intro a
 induction a using Nat.strongRecOn with
 |_ a ih=>
  intro ha
  obtain ⟨k1,k2⟩:=Ls h ha
  obtain ⟨n1,n2⟩:=aoT h ha
  rw [P7 q f X a,P7 q f Y a]
  by_cases h5:(nodeAt q a).1=5
  · have hk:=k1 (.inl h5)
    have i1:=(ih _ hk.2 (by omega)).2 (n1 h5)
    rw [if_pos h5,if_pos h5,dif_pos hk.2,dif_pos hk.2,i1]
    exact ⟨fun _=>id,fun _=>rfl⟩
  rw [if_neg h5,if_neg h5]
  by_cases h6:(nodeAt q a).1=6
  · have h2:jl (nodeAt q a)=true:=yX.2 (.inl h6)
    have hk:=k1 (.inr h2)
    have hk':=k2 h2
    have i1:=ih _ hk.2 (by omega)
    have i2:=ih _ hk'.2 (by omega)
    rw [(n2 h2).1] at i1
    rw [(n2 h2).2] at i2
    rw [if_pos h6,if_pos h6,dif_pos ⟨hk.2,hk'.2⟩,dif_pos ⟨hk.2,hk'.2⟩]
    refine ⟨fun hf hv=>?_,fun ht=>by rw [i1.2 ht,i2.2 ht]⟩
    rw [Bool.and_eq_true] at hv ⊢
    exact ⟨i1.1 hf hv.1,i2.1 hf hv.2⟩
  rw [if_neg h6,if_neg h6]
  by_cases h7:(nodeAt q a).1=7
  · have h2:jl (nodeAt q a)=true:=yX.2 (.inr h7)
    have hk:=k1 (.inr h2)
    have hk':=k2 h2
    have i1:=ih _ hk.2 (by omega)
    have i2:=ih _ hk'.2 (by omega)
    rw [(n2 h2).1] at i1
    rw [(n2 h2).2] at i2
    rw [if_pos h7,if_pos h7,dif_pos ⟨hk.2,hk'.2⟩,dif_pos ⟨hk.2,hk'.2⟩]
    refine ⟨fun hf hv=>?_,fun ht=>by rw [i1.2 ht,i2.2 ht]⟩
    rw [Bool.or_eq_true] at hv ⊢
    exact hv.imp (i1.1 hf) (i2.1 hf)
  rw [if_neg h7,if_neg h7]
  by_cases h8:(nodeAt q a).1=8
  · have hm:=amn h ha (by unfold jh;simp [h8])
    unfold jc
    simp only [h8]
    refine ⟨fun hf hv=>?_,fun ht=>?_⟩
    · rw [hf] at hm;exact hp _ hm _ hv
    · rw [ht] at hm;exact hn _ hm _
  by_cases h9:(nodeAt q a).1=9
  · have hm:=amn h ha (by unfold jh;simp [h9])
    unfold jc
    simp only [h9]
    refine ⟨fun hf hv=>?_,fun ht=>?_⟩
    · rw [hf] at hm
      have hv:(!((f.2.2.2.1==0))&&X (nodeAt q a).2.2.2.1 f.2.2.2.1)=true:=hv
      rw [Bool.and_eq_true] at hv
      show (!((f.2.2.2.1==0))&&Y (nodeAt q a).2.2.2.1 f.2.2.2.1)=true
      rw [Bool.and_eq_true]
      exact ⟨hv.1,hp _ hm _ hv.2⟩
    · rw [ht] at hm
      show (!((f.2.2.2.1==0))&&X (nodeAt q a).2.2.2.1 f.2.2.2.1)=(!((f.2.2.2.1==0))&&Y (nodeAt q a).2.2.2.1 f.2.2.2.1)
      rw [hn _ hm]
  · have:jc (nodeAt q a) f X=jc (nodeAt q a) f Y:=by
     unfold jc
     rw [beq_eq_false_iff_ne.2 h8,beq_eq_false_iff_ne.2 h9];rfl
    rw [this]
    exact ⟨fun _=>id,fun _=>rfl⟩
theorem LZ {q:List bD} {f:aZ} {X Y:BX} (hp:∀ s∈dZ q false,∀ x,X s x=true→Y s x=true) (hn:∀ s∈dZ q true,∀ x,X s x=Y s x) (hm:mP q f X=true):mP q f Y=true:=by
 unfold mP at hm ⊢
 rw [Bool.and_eq_true] at hm ⊢
 have hl:=D7 hm.1
 exact ⟨hm.1,(aqJ hm.1 hp hn _ (by omega)).1 (aoU hm.1) hm.2⟩
theorem aiB {fs:List aZ} {q:List bD} {X:BX} {x:Int}:(x,())∈sel fs q X↔∃ f∈fs,f.1=x∧mP q f X=true:=by
 unfold sel
 rw [List.mem_map]
 constructor
 · rintro ⟨f,hf,e⟩
   rw [List.mem_filter] at hf
   exact ⟨f,hf.1,congrArg Prod.fst e,hf.2⟩
 · rintro ⟨f,hf,rfl,hm⟩
   exact ⟨f,List.mem_filter.2 ⟨hf,hm⟩,rfl⟩
theorem Yn {fs:List aZ} {q:List bD} {X Y:BX} (h:∀ b,∀ s∈dZ q b,∀ x,X s x=Y s x):sel fs q X=sel fs q Y:=by
 unfold sel
 congr 1
 apply List.filter_congr
 intro f _
 rw [Bool.eq_iff_iff]
 exact ⟨LZ (fun s hs x hx=>by rw [← h false s hs x];exact hx) (fun s hs x=>h true s hs x),LZ (fun s hs x hx=>by rw [h false s hs x];exact hx) (fun s hs x=>(h true s hs x).symm)⟩
def NV (fs:List aZ) (d:List aH):Sys Bytes Int where
 T:=fun s X x=>∃ i,i<d.length∧(bI d i).1=s∧(x,())∈sel fs (bI d i).2.1 X
 pos:=fun s t=>∃ i,i<d.length∧(bI d i).1=s∧t∈dZ (bI d i).2.1 false
 neg:=fun s t=>∃ i,i<d.length∧(bI d i).1=s∧t∈dZ (bI d i).2.1 true
 mono:=fun s X Y hp hn x ⟨i,hi,e,hx⟩=>⟨i,hi,e,by
  obtain ⟨f,hf,e2,hm⟩:=aiB.1 hx
  exact aiB.2 ⟨f,hf,e2,LZ (fun t ht=>hp t ⟨i,hi,e,ht⟩) (fun t ht=>hn t ⟨i,hi,e,ht⟩) hm⟩⟩
end Sp
namespace Go.Fw
open Go
end Go.Fw
namespace Go.Fw
open Go
theorem dB {p:Prop} [Decidable p] {A B:Prop} (h:p) (a:A):cond (decide p) A B:=by rw [decide_eq_true h];exact a
theorem dD {p:Prop} [Decidable p] {A B:Prop} (h:¬ p) (b:B):cond (decide p) A B:=by rw [decide_eq_false h];exact b
theorem iV {B:((Int×Unit)×Unit→Prop)→((Int×Unit)×Unit→Nat)→(Int×Unit)×Unit→Prop} (len:Nat) (hlen:len≤9223372036854775807) (J:Nat→Prop) (h0:J 0)
 (hstep:∀ I μ (n:Nat),n<len→J n→(J (n+1)→I ((IntKind.i64.wrap ((n:Int)+1),()),())∧μ ((IntKind.i64.wrap ((n:Int)+1),()),())<μ (((n:Int),()),()))→B I μ (((n:Int),()),()))
 (hend:∀ I μ,J len→B I μ (((len:Int),()),())):∃ I,∃ μ,I (((0:Int),()),())∧∀ y,I y→B I μ y:=by
 refine ⟨fun y=>∃ n:Nat,y.1.1=n∧n≤len∧J n,fun y=>((len:Int)-y.1.1).toNat,⟨0,rfl,Nat.zero_le _,h0⟩,?_⟩
 rintro ⟨⟨_,⟨⟩⟩,⟨⟩⟩ ⟨n,rfl,hn,hJ⟩
 rcases Nat.lt_or_ge n len with h|h
 · refine hstep _ _ n h hJ fun hJ'=>?_
   have e:IntKind.i64.wrap ((n:Int)+1)=((n+1:Nat):Int):=fC _ (by omega)
   rw [e]
   exact ⟨⟨n+1,rfl,h,hJ'⟩,by show ((len:Int)-(n+1:Nat)).toNat<((len:Int)-n).toNat;omega⟩
 · have:n=len:=by omega
   subst this
   exact hend _ _ hJ
theorem dR {Y S:Type} (mk:Int→S→Y) (idx:Y→Int) (hidx:∀ i s,idx (mk i s)=i) {B:(Y→Prop)→(Y→Nat)→Y→Prop} (len:Nat) (hlen:len≤9223372036854775807) (J:Nat→S→Prop) {s0:S} (h0:J 0 s0)
 (hstep:∀ I μ (n:Nat) (s:S),n<len→J n s→(∀ s',J (n+1) s'→I (mk (IntKind.i64.wrap ((n:Int)+1)) s')∧μ (mk (IntKind.i64.wrap ((n:Int)+1)) s')<μ (mk n s))→B I μ (mk n s))
 (hend:∀ I μ s,J len s→B I μ (mk len s)):∃ I,∃ μ,I (mk 0 s0)∧∀ y,I y→B I μ y:=by
 refine ⟨fun y=>∃ (n:Nat) (s:S),y=mk n s∧n≤len∧J n s,fun y=>((len:Int)-idx y).toNat,⟨0,s0,rfl,Nat.zero_le _,h0⟩,?_⟩
 rintro _ ⟨n,s,rfl,hn,hJ⟩
 rcases Nat.lt_or_ge n len with h|h
 · refine hstep _ _ n s h hJ fun s' hJ'=>?_
   have e:IntKind.i64.wrap ((n:Int)+1)=((n+1:Nat):Int):=fC _ (by omega)
   rw [e]
   refine ⟨⟨n+1,s',rfl,h,hJ'⟩,?_⟩
   show ((len:Int)-idx (mk (n+1:Nat) s')).toNat<((len:Int)-idx (mk n s)).toNat
   rw [hidx,hidx]
   omega
 · have:n=len:=by omega
   subst this
   exact hend _ _ s hJ
theorem Bo {len:Nat} {f:Nat→Bool} {n:Nat} (hn:n<len) (h:f n=false):Sp.jk len f=false:=by
 unfold Sp.jk
 rw [List.all_eq_false]
 exact ⟨n,List.mem_range.2 hn,by rw [h];simp⟩
theorem oH {len:Nat} {f:Nat→Bool} (h:∀ i,i<len→f i=true):Sp.jk len f=true:=by
 unfold Sp.jk
 rw [List.all_eq_true]
 exact fun i hi=>h i (List.mem_range.1 hi)
theorem abG {len:Nat} {f:Nat→Bool}:Sp.jk len f=true↔∀ i,i<len→f i=true:=by
 unfold Sp.jk
 rw [List.all_eq_true]
 exact ⟨fun h i hi=>h i (List.mem_range.2 hi),fun h i hi=>h i (List.mem_range.1 hi)⟩
theorem dX {n:Nat} {f:Nat→Bool} (h:∀ i,i<n→f i=true) (hn:f n=true):∀ i,i<n+1→f i=true:=fun i hi=>by
 rcases Nat.lt_or_ge i n with h'|h'
 · exact h i h'
 · have:i=n:=by omega
   rw [this];exact hn
theorem fQ {b:Bool} (h:(!b)=true):b=false:=by cases b<;>first|rfl|cases h
theorem dH {b:Bool} (h:(!b)=false):b=true:=by cases b<;>first|rfl|cases h
theorem fD {p:Prop} [Decidable p] (h:decide p=true):p:=of_decide_eq_true h
theorem fP {p:Prop} [Decidable p] (h:decide p=false):¬ p:=of_decide_eq_false h
theorem xC {n:Nat} (h:0<n) (hn:n≤9223372036854775807):IntKind.i64.wrap ((n:Int)-1)=((n-1:Nat):Int):=by rw [fC _ (by omega)];omega
theorem LC {α:Type} {d:α} {a b:List α} (hl:a.length=b.length) (h:∀ i,i<a.length→a.getD i d=b.getD i d):a=b:=by
 refine List.ext_getElem hl fun i h1 h2=>?_
 have:=h i h1
 rw [List.getD_eq_getElem?_getD,List.getD_eq_getElem?_getD,List.getElem?_eq_getElem h1,List.getElem?_eq_getElem h2] at this
 simpa using this
theorem PV {α β:Type} (e:α→α→Bool) (he:∀ x y,e x y=false↔x=y) (d:α) (a b:List α) (t:β) (hlen:a.length≤9223372036854775807) (hl:a.length=b.length) {K:Bool×Unit→Prop} (hF:a≠b→K (false,())) (hT:a=b→K (true,())):
 ∃ (I:(Int×Unit)×Unit→Prop),∃ (μ:(Int×Unit)×Unit→Nat),I (((0:Int),()),())∧∀ (y:(Int×Unit)×Unit),I y→
   bif decide (y.fst.fst<(a.length:Int)) then
    ((0:Int)≤y.fst.fst∧y.fst.fst<(a.length:Int))∧((0:Int)≤y.fst.fst∧y.fst.fst<(b.length:Int))∧
      (bif e (a.getD (Int.toNat y.fst.fst) d) (b.getD (Int.toNat y.fst.fst) d) then K (false,())
      else t=t∧I ((IntKind.i64.wrap (y.fst.fst+(1:Int)),()),())∧μ ((IntKind.i64.wrap (y.fst.fst+(1:Int)),()),())<μ y)
   else K (true,()):=by
 refine iV a.length hlen (fun n=>∀ i,i<n→a.getD i d=b.getD i d) (fun i hi=>by omega) (fun I μ n hn hJ next=>?_) fun I μ hJ=>(by dsimp only;exact dD (by omega) (hT (LC hl hJ)))
 dsimp only
 refine dB (by omega) ⟨⟨by omega,by omega⟩,⟨by omega,by omega⟩,af (fun h=>hF fun h'=>?_) fun h=>⟨rfl,next fun i hi=>?_⟩⟩
 · subst h'
   have:=(he (a.getD n d) (a.getD n d)).2 rfl
   have h:e (a.getD n d) (a.getD n d)=true:=h
   rw [this] at h;cases h
 · rcases Nat.lt_or_ge i n with h'|h'
   · exact hJ i h'
   · have:i=n:=by omega
     rw [this];exact (he _ _).1 h
theorem acT {α β:Type} (e:α→α→Bool) (he:∀ x y,e x y=false↔x=y) (d:α) (a b:List α) (t:β) (hlen:a.length≤9223372036854775807) (hl:a.length=b.length) {K:Bool×Unit→Prop} (hF:a≠b→K (false,())) (hT:a=b→K (true,())):
 ∃ (I:(Int×Unit)×Unit→Prop),∃ (μ:(Int×Unit)×Unit→Nat),I (((0:Int),()),())∧∀ (y:(Int×Unit)×Unit),I y→
   bif decide (y.fst.fst<(a.length:Int)) then
    ((0:Int)≤y.fst.fst∧y.fst.fst<(a.length:Int))∧((0:Int)≤y.fst.fst∧y.fst.fst<(b.length:Int))∧True∧
      (bif e (a.getD (Int.toNat y.fst.fst) d) (b.getD (Int.toNat y.fst.fst) d) then K (false,())
      else t=t∧I ((IntKind.i64.wrap (y.fst.fst+(1:Int)),()),())∧μ ((IntKind.i64.wrap (y.fst.fst+(1:Int)),()),())<μ y)
   else K (true,()):=by
 refine iV a.length hlen (fun n=>∀ i,i<n→a.getD i d=b.getD i d) (fun i hi=>by omega) (fun I μ n hn hJ next=>?_) fun I μ hJ=>(by dsimp only;exact dD (by omega) (hT (LC hl hJ)))
 dsimp only
 refine dB (by omega) ⟨⟨by omega,by omega⟩,⟨by omega,by omega⟩,trivial,af (fun h=>hF fun h'=>?_) fun h=>⟨rfl,next fun i hi=>?_⟩⟩
 · subst h'
   have:=(he (a.getD n d) (a.getD n d)).2 rfl
   have h:e (a.getD n d) (a.getD n d)=true:=h
   rw [this] at h;cases h
 · rcases Nat.lt_or_ge i n with h'|h'
   · exact hJ i h'
   · have:i=n:=by omega
     rw [this];exact (he _ _).1 h
end Go.Fw
namespace Sp
open Go Go.Fw
theorem Xy {name:Bytes}:∀ (s:List fV) (n:Nat),n<s.length→(∀ i,i<n→(s.getD i ([],0,())).1≠name)→(s.getD n ([],0,())).1=name→kindOf s name=(s.getD n ([],0,())).2.1
 |[],n,h,_,_=>by simp at h
 |f::r,0,_,_,he=>by
  have he:f.1=name:=he
  show (bif decide (f.1=name) then f.2.1 else kindOf r name)=f.2.1
  rw [decide_eq_true he];rfl
 |f::r,n+1,h,hne,he=>by
  have h0:f.1≠name:=hne 0 (by omega)
  show (bif decide (f.1=name) then f.2.1 else kindOf r name)=_
  rw [decide_eq_false h0]
  exact Xy r n (by simpa using h) (fun i hi=>hne (i+1) (by omega)) he
theorem Ot {name:Bytes}:∀ (s:List fV),(∀ i,i<s.length→(s.getD i ([],0,())).1≠name)→kindOf s name=0
 |[],_=>rfl
 |f::r,hne=>by
  have h0:f.1≠name:=hne 0 (by simp)
  show (bif decide (f.1=name) then f.2.1 else kindOf r name)=_
  rw [decide_eq_false h0]
  exact Ot r fun i hi=>hne (i+1) (by simp;omega)
theorem Yo {id:Int}:∀ (s:List aZ) (k:Int) (n:Nat),n<s.length→(∀ i,i<n→(fileAt s i).1≠id)→(fileAt s n).1=id→Aj k s id=k+n
 |[],_,n,h,_,_=>by simp at h
 |f::r,k,0,_,_,he=>by
  have he:f.1=id:=he
  show (bif decide (f.1=id) then k else Aj (k+1) r id)=_
  rw [decide_eq_true he];simp
 |f::r,k,n+1,h,hne,he=>by
  have h0:f.1≠id:=hne 0 (by omega)
  show (bif decide (f.1=id) then k else Aj (k+1) r id)=_
  rw [decide_eq_false h0]
  show Aj (k+1) r id=_
  rw [Yo r (k+1) n (by simpa using h) (fun i hi=>hne (i+1) (by omega)) he]
  omega
theorem Qu {id:Int}:∀ (s:List aZ) (k:Int),(∀ i,i<s.length→(fileAt s i).1≠id)→Aj k s id=-1
 |[],_,_=>rfl
 |f::r,k,hne=>by
  have h0:f.1≠id:=hne 0 (by simp)
  show (bif decide (f.1=id) then k else Aj (k+1) r id)=_
  rw [decide_eq_false h0]
  exact Qu r (k+1) fun i hi=>hne (i+1) (by simp;omega)
theorem Lh {id:Int} {s:List aZ} {n:Nat} (h:n<s.length) (hne:∀ i,i<n→(fileAt s i).1≠id) (he:(fileAt s n).1=id):place s id=n:=by
 unfold place
 rw [Yo s 0 n h hne he];omega
theorem afh {id:Int} {s:List aZ} (hne:∀ i,i<s.length→(fileAt s i).1≠id):place s id=-1:=Qu s 0 hne
theorem am7 (s:List aZ) (id:Int):(place s id=-1∧∀ i,i<s.length→(fileAt s i).1≠id)∨∃ n,n<s.length∧place s id=n∧(fileAt s n).1=id∧∀ i,i<n→(fileAt s i).1≠id:=by
 by_cases h:∃ n,n<s.length∧(fileAt s n).1=id
 · obtain ⟨n,h1,h2,h3⟩:=(least s.length (p:=fun n=>(fileAt s n).1=id) h)
   exact .inr ⟨n,h1,Lh h1 (fun i hi=>h3 i hi) h2,h2,fun i hi=>h3 i hi⟩
 · have hne:∀ i,i<s.length→(fileAt s i).1≠id:=fun i hi e=>h ⟨i,hi,e⟩
   exact .inl ⟨afh hne,hne⟩
theorem abB {s:List fV} {n:Nat} (h:n<s.length) (hn:kF s n=false):eY s=false:=by
 unfold eY;rw [Bo h hn];rfl
theorem aoV {fs:List fV} {s:List fZ} {n:Nat} (h:n<s.length) (hn:jB fs s n=false):jZ fs s=false:=Bo h hn
theorem ajG {fs:List fV} {f:aZ} {n:Nat} (h:n<f.2.2.2.2.1.length) (hn:jB fs f.2.2.2.2.1 n=false):dO fs f=false:=by
 unfold dO;rw [aoV h hn];rfl
theorem aff {s:dG} {n:Nat} (h:n<s.2.1.length) (hn:jU s n=false):aJ s=false:=by
 unfold aJ;rw [Bo h hn];rfl
theorem vH {s:dG} {i:Nat}:jU s i=true↔dO s.1 (fileAt s.2.1 i)=true∧(fileAt s.2.1 i).1<s.2.2.1∧(0<i→(fileAt s.2.1 (i-1)).1<(fileAt s.2.1 i).1):=by
 unfold jU
 rw [Bool.and_eq_true,Bool.and_eq_true,decide_eq_true_eq,and_assoc]
 refine and_congr_right fun _=>and_congr_right fun _=>?_
 by_cases h:0<i
 · simp [h]
 · simp [h]
theorem qK {s:dG}:aJ s=true↔(∀ i,i<s.2.1.length→jU s i=true)∧eY s.1=true∧s.2.1.length≤12∧1≤s.2.2.1∧s.2.2.1≤61:=by
 unfold aJ
 rw [Bool.and_eq_true,Bool.and_eq_true,Bool.and_eq_true,Bool.and_eq_true,decide_eq_true_eq,decide_eq_true_eq,decide_eq_true_eq,abG]
 constructor
 · rintro ⟨⟨⟨h1,h2⟩,h3⟩,h4,h5⟩;exact ⟨h1,h2,by omega,h4,h5⟩
 · rintro ⟨h1,h2,h3,h4,h5⟩;exact ⟨⟨⟨h1,h2⟩,by omega⟩,h4,h5⟩
theorem ap6 {fs:List fV} {f:aZ} (h:dO fs f=true):1≤f.1∧f.1≤60:=by
 unfold dO at h
 simp only [Bool.and_eq_true,decide_eq_true_eq] at h
 exact h.1.1.2
theorem OH {fs:List aZ} {g:aZ} {i:Nat} (h:i<fs.length):fileAt (fs++[g]) i=fileAt fs i:=by
 unfold fileAt
 rw [List.getD_eq_getElem?_getD,List.getElem?_append_left h,← List.getD_eq_getElem?_getD]
theorem am8 {fs:List aZ} {g:aZ}:fileAt (fs++[g]) fs.length=g:=by
 unfold fileAt
 rw [List.getD_eq_getElem?_getD,List.getElem?_append_right (Nat.le_refl _)];simp
theorem amo {s:dG} {g:aZ} (h:aJ s=true) (hl:s.2.1.length<12) (hg:dO s.1 g=true) (hid:g.1=s.2.2.1):aJ (s.1,s.2.1++[g],s.2.2.1+1,())=true:=by
 obtain ⟨h1,h2,h3,h4,h5⟩:=qK.1 h
 have hg1:=ap6 hg
 refine qK.2 ⟨fun i hi=>?_,h2,by show (s.2.1++[g]).length≤12;simp;omega,by show 1≤s.2.2.1+1;omega,by show s.2.2.1+1≤61;omega⟩
 have hi:i<(s.2.1++[g]).length:=hi
 rw [List.length_append,List.length_cons,List.length_nil] at hi
 refine vH.2 ?_
 show dO s.1 (fileAt (s.2.1++[g]) i)=true∧(fileAt (s.2.1++[g]) i).1<s.2.2.1+1∧(0<i→(fileAt (s.2.1++[g]) (i-1)).1<(fileAt (s.2.1++[g]) i).1)
 rcases Nat.lt_or_ge i s.2.1.length with hlt|hge
 · obtain ⟨k1,k2,k3⟩:=vH.1 (h1 i hlt)
   rw [OH hlt]
   refine ⟨k1,by omega,fun h0=>?_⟩
   rw [OH (by omega)]
   exact k3 h0
 · have e:i=s.2.1.length:=by omega
   subst e
   rw [am8]
   refine ⟨hg,by omega,fun h0=>?_⟩
   rw [OH (by omega)]
   have:=(vH.1 (h1 (s.2.1.length-1) (by omega))).2.1
   omega
theorem pG (s:dG) (f:aZ):(bZ s f=(s,0,false)∧¬ (aJ s=true∧s.2.1.length<12∧dO s.1 (s.2.2.1,f.2)=true))∨
 (aJ s=true∧s.2.1.length<12∧dO s.1 (s.2.2.1,f.2)=true∧bZ s f=((s.1,s.2.1++[(s.2.2.1,f.2)],s.2.2.1+1,()),s.2.2.1,true)):=by
 by_cases h:aJ s=true∧s.2.1.length<12∧dO s.1 (s.2.2.1,f.2)=true
 · right
   refine ⟨h.1,h.2.1,h.2.2,?_⟩
   unfold bZ
   dsimp only
   rw [h.1,h.2.2,decide_eq_true (by omega)];rfl
 · left
   refine ⟨?_,h⟩
   have:(aJ s&&decide ((s.2.1.length:Int)<12)&&dO s.1 (s.2.2.1,f.2))=false:=by
    cases hb:(aJ s&&decide ((s.2.1.length:Int)<12)&&dO s.1 (s.2.2.1,f.2)) with
    |false=>rfl
    |true=>
     simp only [Bool.and_eq_true,decide_eq_true_eq] at hb
     exact (h ⟨hb.1.1,by omega,hb.2⟩).elim
   unfold bZ
   dsimp only
   rw [this];rfl
theorem aid {s:dG} (f:aZ) (h:aJ s=true):aJ (bZ s f).1=true:=by
 rcases pG s f with ⟨e,_⟩|⟨h1,h2,h3,e⟩
 · rw [e];exact h
 · rw [e];exact amo h1 h2 h3 rfl
theorem akv {s:dG} {f:aZ} (h:bQ s) (hf:pU f):bQ (bZ s f).1:=by
 rcases pG s f with ⟨e,_⟩|⟨h1,h2,h3,e⟩
 · rw [e];exact h
 · rw [e]
   refine ⟨h.1,by show (s.2.1++[(s.2.2.1,f.2)]).length≤1000;simp;omega,fun g hg=>?_⟩
   have hg:g∈s.2.1++[(s.2.2.1,f.2)]:=hg
   rcases List.mem_append.1 hg with hg|hg
   · exact h.2.2 g hg
   · have:g=(s.2.2.1,f.2):=by simpa using hg
     subst this;exact hf
theorem yg (s:dG) (id:Int):(fA s id=(s,false)∧¬ (aJ s=true∧0≤place s.2.1 id))∨
 ∃ n,n<s.2.1.length∧place s.2.1 id=n∧aJ s=true∧fA s id=((s.1,s.2.1.eraseIdx n,s.2.2.1,()),true):=by
 rcases am7 s.2.1 id with ⟨h,_⟩|⟨n,hn,h,_,_⟩
 · left
   refine ⟨?_,fun h'=>by omega⟩
   unfold fA
   rw [h];simp
 · cases ho:aJ s with
   |false=>
    left
    refine ⟨?_,fun h'=>by cases h'.1⟩
    unfold fA
    rw [ho];rfl
   |true=>
    right
    refine ⟨n,hn,h,rfl,?_⟩
    unfold fA
    rw [ho,h,decide_eq_false (by omega),Int.toNat_natCast];rfl
theorem Yp {fs:List aZ} {n i:Nat}:fileAt (fs.eraseIdx n) i=if i<n then fileAt fs i else fileAt fs (i+1):=by
 unfold fileAt
 rw [List.getD_eq_getElem?_getD,List.getElem?_eraseIdx]
 split<;>rw [List.getD_eq_getElem?_getD]
theorem aky {s:dG} {n:Nat} (h:aJ s=true) (hn:n<s.2.1.length):aJ (s.1,s.2.1.eraseIdx n,s.2.2.1,())=true:=by
 obtain ⟨h1,h2,h3,h4,h5⟩:=qK.1 h
 have hlen:(s.2.1.eraseIdx n).length=s.2.1.length-1:=List.length_eraseIdx_of_lt hn
 refine qK.2 ⟨fun i hi=>?_,h2,by show (s.2.1.eraseIdx n).length≤12;omega,h4,h5⟩
 have hi:i<(s.2.1.eraseIdx n).length:=hi
 refine vH.2 ?_
 show dO s.1 (fileAt (s.2.1.eraseIdx n) i)=true∧(fileAt (s.2.1.eraseIdx n) i).1<s.2.2.1∧(0<i→(fileAt (s.2.1.eraseIdx n) (i-1)).1<(fileAt (s.2.1.eraseIdx n) i).1)
 rw [Yp,Yp]
 rcases Nat.lt_or_ge i n with hlt|hge
 · rw [if_pos hlt]
   obtain ⟨k1,k2,k3⟩:=vH.1 (h1 i (by omega))
   refine ⟨k1,k2,fun h0=>?_⟩
   rw [if_pos (by omega)]
   exact k3 h0
 · rw [if_neg (by omega)]
   obtain ⟨k1,k2,k3⟩:=vH.1 (h1 (i+1) (by omega))
   refine ⟨k1,k2,fun h0=>?_⟩
   have k3:=k3 (by omega)
   rw [Nat.add_sub_cancel] at k3
   split
   · have:=(vH.1 (h1 i (by omega))).2.2 h0
     omega
   · rw [show i-1+1=i by omega]
     exact k3
theorem aie {s:dG} (id:Int) (h:aJ s=true):aJ (fA s id).1=true:=by
 rcases yg s id with ⟨e,_⟩|⟨n,hn,_,ho,e⟩
 · rw [e];exact h
 · rw [e];exact aky ho hn
theorem akw {s:dG} (id:Int) (h:bQ s):bQ (fA s id).1:=by
 rcases yg s id with ⟨e,_⟩|⟨n,hn,_,ho,e⟩
 · rw [e];exact h
 · rw [e]
   refine ⟨h.1,?_,fun g hg=>h.2.2 g (List.mem_of_mem_eraseIdx hg)⟩
   show (s.2.1.eraseIdx n).length≤1000
   have:=h.2.1
   rw [List.length_eraseIdx_of_lt hn];omega
theorem Ll {α:Type} {p:α→Bool} {d:α}:∀ (l:List α) (n:Nat),n≤l.length→(∀ i,i<n→p (l.getD i d)=true)→(n<l.length→p (l.getD n d)=false)→l.takeWhile p=l.take n∧l.dropWhile p=l.drop n
 |[],n,h,_,_=>by simp
 |x::r,0,_,_,h=>by
  have h:p x=false:=h (by simp)
  constructor<;>simp [h]
 |x::r,n+1,hn,h1,h2=>by
  have h0:p x=true:=h1 0 (by omega)
  have:=Ll r n (by simpa using hn) (fun i hi=>h1 (i+1) (by omega)) fun hlt=>h2 (by simpa using hlt)
  constructor<;>simp [h0,this.1,this.2]
end Sp
namespace Sp
open Go Go.Fw
theorem abL {α:Type} {p:α→Bool} {d:α}:∀ (s:List α) (k:Int) (n:Nat),n<s.length→(∀ i,i<n→p (s.getD i d)=false)→p (s.getD n d)=true→CU p k s=k+n
 |[],_,n,h,_,_=>by simp at h
 |f::r,k,0,_,_,he=>by
  have he:p f=true:=he
  show (bif p f then k else CU p (k+1) r)=_
  rw [he];simp
 |f::r,k,n+1,h,hne,he=>by
  have h0:p f=false:=hne 0 (by omega)
  show (bif p f then k else CU p (k+1) r)=_
  rw [h0]
  show CU p (k+1) r=_
  rw [abL r (k+1) n (by simpa using h) (fun i hi=>hne (i+1) (by omega)) he]
  omega
theorem Uu {α:Type} {p:α→Bool} {d:α}:∀ (s:List α) (k:Int),(∀ i,i<s.length→p (s.getD i d)=false)→CU p k s=-1
 |[],_,_=>rfl
 |f::r,k,hne=>by
  have h0:p f=false:=hne 0 (by simp)
  show (bif p f then k else CU p (k+1) r)=_
  rw [h0]
  exact Uu r (k+1) fun i hi=>hne (i+1) (by simp;omega)
theorem ajS {α:Type} {p:α→Bool} {d:α} {s:List α} {n:Nat} (h:n<s.length) (hne:∀ i,i<n→p (s.getD i d)=false) (he:p (s.getD n d)=true):findAt p s=n:=by
 unfold findAt;rw [abL s 0 n h hne he];omega
theorem abM {α:Type} {p:α→Bool} {d:α} {s:List α} (hne:∀ i,i<s.length→p (s.getD i d)=false):findAt p s=-1:=Uu s 0 hne
theorem LX {α:Type} (p:α→Bool) (d:α) (s:List α):(findAt p s=-1∧∀ i,i<s.length→p (s.getD i d)=false)∨∃ n,n<s.length∧findAt p s=n∧p (s.getD n d)=true∧∀ i,i<n→p (s.getD i d)=false:=by
 by_cases h:∃ n,n<s.length∧p (s.getD n d)=true
 · obtain ⟨n,h1,h2,h3⟩:=least s.length (p:=fun n=>p (s.getD n d)=true) h
   have h3:∀ i,i<n→p (s.getD i d)=false:=fun i hi=>by simpa using h3 i hi
   exact .inr ⟨n,h1,ajS h1 h3 h2,h2,h3⟩
 · have hne:∀ i,i<s.length→p (s.getD i d)=false:=fun i hi=>by
    cases hp:p (s.getD i d) with
    |false=>rfl
    |true=>exact (h ⟨i,hi,hp⟩).elim
   exact .inl ⟨abM hne,hne⟩
theorem Ea:∀ a:Bytes,Op.bytesLess a a=false
 |[]=>rfl
 |x::a=>by
  show (decide (x<x)||(x==x&&Op.bytesLess a a))=false
  rw [Ea a,decide_eq_false (UInt8.lt_irrefl x),Bool.and_false];rfl
theorem JK:∀ a b:Bytes,Op.bytesLess a b=false→a≠b→Op.bytesLess b a=true
 |[],[],_,h=>(h rfl).elim
 |x::a,[],_,_=>rfl
 |[],y::b,h,_=>by cases h
 |x::a,y::b,h,hne=>by
  have h:(decide (x<y)||(x==y&&Op.bytesLess a b))=false:=h
  show (decide (y<x)||(y==x&&Op.bytesLess b a))=true
  rw [Bool.or_eq_false_iff,decide_eq_false_iff_not] at h
  by_cases e:x=y
  · subst e
    have h2:Op.bytesLess a b=false:=by simpa using h.2
    rw [JK a b h2 (fun e=>hne (by rw [e]))]
    simp
  · have:y<x:=by
     have h1:¬ x.toNat<y.toNat:=fun hh=>h.1 (UInt8.lt_iff_toNat_lt.2 hh)
     have h2:x.toNat≠y.toNat:=fun hh=>e (UInt8.toNat_inj.1 hh)
     exact UInt8.lt_iff_toNat_lt.2 (by omega)
    rw [decide_eq_true this];rfl
theorem ap7 {x y:UInt8} {a b:Bytes}:Op.bytesLess (x::a) (y::b)=true↔x.toNat<y.toNat∨(x=y∧Op.bytesLess a b=true):=by
 show (decide (x<y)||(x==y&&Op.bytesLess a b))=true↔_
 rw [Bool.or_eq_true,decide_eq_true_eq,Bool.and_eq_true,beq_iff_eq,UInt8.lt_iff_toNat_lt]
theorem FZ:∀ a b c:Bytes,Op.bytesLess a b=true→Op.bytesLess b c=true→Op.bytesLess a c=true
 |_,[],_,h,_=>by cases h':(‹Bytes›:Bytes)<;>simp_all [Op.bytesLess]
 |_,_::_,[],_,h=>by cases h
 |[],_::_,_::_,_,_=>rfl
 |x::a,y::b,z::c,h1,h2=>by
  rw [ap7] at h1 h2 ⊢
  rcases h1 with h1|⟨rfl,h1⟩
  · rcases h2 with h2|⟨rfl,h2⟩
    · exact .inl (by omega)
    · exact .inl h1
  · rcases h2 with h2|⟨rfl,h2⟩
    · exact .inl h2
    · exact .inr ⟨rfl,FZ a b c h1 h2⟩
theorem Ko {a b:Bytes} (h:Op.bytesLess a b=true):a≠b:=fun e=>by rw [e,Ea] at h;cases h
theorem agn {a b:Bytes} (h:Op.bytesLess a b=true):Op.bytesLess b a=false:=by
 cases hb:Op.bytesLess b a with
 |false=>rfl
 |true=>have:=FZ a b a h hb;rw [Ea] at this;cases this
theorem aqH (a b:Bytes):(!(Op.bytesLess a b||a==b))=Op.bytesLess b a:=by
 cases h:Op.bytesLess a b with
 |true=>rw [agn h];rfl
 |false=>
  by_cases e:a=b
  · subst e;rw [Ea];simp
  · rw [JK a b h e]
    simp [e]
end Sp
namespace Sp
open Go
def nameOf (d:List aH) (i:Nat):Bytes:=(bI d i).1
def dK (d:List aH) (i:Nat):List bD:=(bI d i).2.1
def uH (r:List dn) (i:Nat):dn:=r.getD i ([],[],())
def iw (r:List dn) (i:Nat):List (Int×Unit):=(uH r i).2.1
def jE (d:List aH) (aC:List (Int×Unit)):Prop:=
 aC.length=d.length∧(∀ i,i<d.length→0≤lv aC i∧lv aC i≤d.length)∧(iL (dI d) fun i=>(lv aC i).toNat)∧∀ M,iL (dI d) M→∀ i,i<d.length→lv aC i≤M i
theorem XU {d:List aH} {a b:List (Int×Unit)} (h1:jE d a) (h2:jE d b):a=b:=by
 refine apR (h1.1.trans h2.1.symm) fun i hi=>?_
 have hi:i<d.length:=by rw [← h1.1];exact hi
 have a1:=h1.2.2.2 _ h2.2.2.1 i hi
 have a2:=h2.2.2.2 _ h1.2.2.1 i hi
 have:=(h1.2.1 i hi).1
 have:=(h2.2.1 i hi).1
 omega
theorem aoI {d:List aH} (h:∃ M,iL (dI d) M∧∀ i,i<d.length→M i<d.length):∃ s,jE d s:=by
 have hE:=kS d
 have hmin:∀ i,∃ m,(∃ M,iL (dI d) M∧M i=m)∧∀ M,iL (dI d) M→m≤M i:=fun i=>by
  obtain ⟨M0,h0,_⟩:=h
  have:∀ n,(∃ M,iL (dI d) M∧M i=n)→∃ m,(∃ M,iL (dI d) M∧M i=m)∧∀ M,iL (dI d) M→m≤M i:=by
   intro n
   induction n using Nat.strongRecOn with
   |_ n ih=>
    intro hn
    by_cases hl:∃ M,iL (dI d) M∧M i<n
    · obtain ⟨M,h1,h2⟩:=hl
      exact ih _ h2 ⟨M,h1,rfl⟩
    · exact ⟨n,hn,fun M hM=>Nat.le_of_not_lt fun hlt=>hl ⟨M,hM,hlt⟩⟩
  exact this (M0 i) ⟨M0,h0,rfl⟩
 obtain ⟨L,hL⟩:=Classical.axiomOfChoice hmin
 have hfix:iL (dI d) L:=fun e he=>by
  obtain ⟨⟨M,h1,h2⟩,_⟩:=hL e.1
  have a:=(hL e.2.1).2 M h1
  have b:=h1 e he
  rw [← h2];omega
 have hlv:∀ i,i<d.length→lv ((List.range d.length).map fun i=>((L i:Int),())) i=L i:=fun i hi=>by
  unfold lv
  rw [List.getD_eq_getElem?_getD,List.getElem?_map,List.getElem?_range hi];rfl
 refine ⟨(List.range d.length).map fun i=>((L i:Int),()),by simp,fun i hi=>?_,fun e he=>?_,fun M hM i hi=>?_⟩
 · rw [hlv i hi]
   obtain ⟨M,h1,h2⟩:=h
   have:=(hL i).2 M h1
   have:=h2 i hi
   omega
 · obtain ⟨h1,h2,_⟩:=hE e he
   have:=hfix e he
   dsimp only
   rw [hlv _ h1,hlv _ h2]
   omega
 · rw [hlv i hi]
   have:=(hL i).2 M hM
   omega
def IV (d:List aH) (aC:List (Int×Unit)) (s:Bytes):Nat:=(lv aC (aQ d s).toNat).toNat
def due (d:List aH) (nm:Bytes→Bool) (s:Bytes):Prop:=nm s=true∧∃ i,i<d.length∧nameOf d i=s
theorem ap8 {d:List aH} (h:bJ d=true) {i:Nat} (hi:i<d.length):bF (dK d i)=true∧(0<i→Op.bytesLess (nameOf d (i-1)) (nameOf d i)=true):=by
 unfold bJ at h
 rw [Bool.and_eq_true] at h
 have h1:mG d i=true:=by
  have:=h.1
  unfold jk at this
  exact List.all_eq_true.1 this i (List.mem_range.2 hi)
 unfold mG at h1
 rw [Bool.and_eq_true,Bool.and_eq_true] at h1
 refine ⟨h1.1.2,fun h0=>?_⟩
 have:=h1.2
 rw [decide_eq_true h0] at this
 simpa [nameOf] using this
theorem Qv {d:List aH} (h:bJ d=true):∀ (j i:Nat),i<j→j<d.length→Op.bytesLess (nameOf d i) (nameOf d j)=true
 |0,i,hi,_=>by omega
 |j+1,i,hi,hj=>by
  have h1:=(ap8 h hj).2 (by omega)
  rcases Nat.lt_or_ge i j with h2|h2
  · exact FZ _ _ _ (Qv h j i h2 (by omega)) h1
  · have:i=j:=by omega
    subst this;exact h1
theorem Es {d:List aH} (h:bJ d=true) {i j:Nat} (hi:i<d.length) (hj:j<d.length) (e:nameOf d i=nameOf d j):i=j:=by
 rcases Nat.lt_trichotomy i j with h1|h1|h1
 · exact (Ko (Qv h j i h1 hj) e).elim
 · exact h1
 · exact (Ko (Qv h i j h1 hi) e.symm).elim
theorem Tq {d:List aH} (h:bJ d=true) {i:Nat} (hi:i<d.length):aQ d (nameOf d i)=i:=by
 rcases xG d (nameOf d i) with ⟨_,h2⟩|⟨n,h1,h2,h3,_⟩
 · refine (h2 (bI d i) ?_ rfl).elim
   unfold bI
   rw [List.getD_eq_getElem?_getD,List.getElem?_eq_getElem hi]
   exact List.getElem_mem hi
 · rw [h2,Es h h1 hi h3]
theorem zi {d:List aH} (h:bJ d=true) {aC:List (Int×Unit)} {i:Nat} (hi:i<d.length):IV d aC (nameOf d i)=(lv aC i).toNat:=by
 unfold IV;rw [Tq h hi];rfl
theorem Et {fs:List aZ} {d:List aH} (h:bJ d=true) {aC:List (Int×Unit)} (hl:jE d aC) (nm:Bytes→Bool):akZ (NV fs d) (due d nm) (IV d aC):=by
 intro s t _ ht
 obtain ⟨_,j,hj,rfl⟩:=ht
 have edge:∀ i,i<d.length→∀ m b,(m=0∧b=false∨m=1∧b=true)→nameOf d j∈dZ (dK d i) b→(lv aC j).toNat+m≤(lv aC i).toNat:=fun i hi m b hm hd=>by
  refine hl.2.2.1 (i,j,m) (CJ.2 ⟨hi,nameOf d j,?_,by rw [Tq h hj];omega,by rw [Tq h hj];rfl⟩)
  rcases hm with ⟨a,b⟩|⟨a,b⟩
  · subst a b;exact .inl ⟨rfl,hd⟩
  · subst a b;exact .inr ⟨rfl,hd⟩
 refine ⟨?_,?_⟩
 · rintro ⟨i,hi,rfl,hd⟩
   rw [show (bI d i).1=nameOf d i from rfl,zi h hi,zi h hj]
   exact edge i hi 0 false (.inl ⟨rfl,rfl⟩) hd
 · rintro ⟨i,hi,rfl,hd⟩
   rw [show (bI d i).1=nameOf d i from rfl,zi h hi,zi h hj]
   exact edge i hi 1 true (.inr ⟨rfl,rfl⟩) hd
def vK (d:List aH) (out:List dn):Prop:=out.length=d.length∧∀ i,i<d.length→(uH out i).1=nameOf d i
theorem Hr:∀ {r:List dn} {s:Bytes},(∀ i,i<r.length→(uH r i).1≠s)→eU r s=[]
 |[],_,_=>rfl
 |x::r,s,h=>by
  have h0:x.1≠s:=h 0 (by simp)
  rw [eU,beq_eq_false_iff_ne.2 h0]
  exact Hr fun i hi=>h (i+1) (by simpa using hi)
theorem XO:∀ {r:List dn} {i:Nat},i<r.length→(∀ j,j<i→(uH r j).1≠(uH r i).1)→eU r (uH r i).1=iw r i
 |[],i,h,_=>by simp at h
 |x::r,0,_,_=>by
  show eU (x::r) x.1=x.2.1
  rw [eU,beq_iff_eq.2 rfl];rfl
 |x::r,i+1,h,hn=>by
  have h0:x.1≠(uH r i).1:=hn 0 (by omega)
  show eU (x::r) (uH r i).1=iw r i
  rw [eU,beq_eq_false_iff_ne.2 h0]
  exact XO (by simpa using h) fun j hj=>hn (j+1) (by omega)
theorem wC {d:List aH} (h:bJ d=true) {out:List dn} (ho:vK d out) {i:Nat} (hi:i<d.length):eU out (nameOf d i)=iw out i:=by
 rw [← ho.2 i hi]
 refine XO (by rw [ho.1];exact hi) fun j hj e=>?_
 rw [ho.2 j (by omega),ho.2 i hi] at e
 have:=Es h (by omega) hi e
 omega
theorem Ir {d:List aH} {out:List dn} (ho:vK d out) {s:Bytes} (hs:∀ i,i<d.length→nameOf d i≠s):eU out s=[]:=
 Hr fun i hi=>by rw [ho.1] at hi;rw [ho.2 i hi];exact hs i hi
structure fH (fs:List aZ) (d:List aH) (r:List dn) (nm:Bytes→Bool) (out:List dn):Prop where
 order:vK d out
 kept:∀ i,i<d.length→nm (nameOf d i)=false→iw out i=eU r (nameOf d i)
 fix:∀ i,i<d.length→nm (nameOf d i)=true→iw out i=sel fs (dK d i) (aY out)
 aC:∃ aC,jE d aC∧Eval (NV fs d) (due d nm) (IV d aC) (aY out)
theorem Zq {a b:List (Int×Unit)} (h:a=b) (x:Int):eH a x=eH b x:=by rw [h]
theorem anP {d:List aH} {a b:List dn} (ha:vK d a) (hb:vK d b) (h:∀ i,i<d.length→iw a i=iw b i):a=b:=by
 refine List.ext_getElem (ha.1.trans hb.1.symm) fun i h1 h2=>?_
 have hi:i<d.length:=by rw [← ha.1];exact h1
 have e1:=ha.2 i hi
 have e2:=hb.2 i hi
 have e3:=h i hi
 unfold iw at e3
 unfold uH at e1 e2 e3
 rw [List.getD_eq_getElem?_getD,List.getElem?_eq_getElem h1] at e1 e3
 rw [List.getD_eq_getElem?_getD,List.getElem?_eq_getElem h2] at e2 e3
 simp only [Option.getD_some] at e1 e2 e3
 exact Prod.ext (e1.trans e2.symm) (Prod.ext e3 rfl)
theorem LH {fs:List aZ} {d:List aH} {r:List dn} {nm:Bytes→Bool} {a b:List dn} (h:bJ d=true) (ha:fH fs d r nm a) (hb:fH fs d r nm b):a=b:=by
 obtain ⟨l1,hl1,e1⟩:=ha.aC
 obtain ⟨l2,hl2,e2⟩:=hb.aC
 have off:∀ s,¬ due d nm s→∀ x,aY a s x=aY b s x:=fun s hs x=>by
  by_cases hd:∃ i,i<d.length∧nameOf d i=s
  · obtain ⟨i,hi,rfl⟩:=hd
    have hn:nm (nameOf d i)=false:=by
     rw [Bool.eq_false_iff];exact fun hn=>hs ⟨hn,i,hi,rfl⟩
    exact Zq (by rw [wC h ha.order hi,wC h hb.order hi,ha.kept i hi hn,hb.kept i hi hn]) x
  · have hd':∀ i,i<d.length→nameOf d i≠s:=fun i hi e=>hd ⟨i,hi,e⟩
    exact Zq (by rw [Ir ha.order hd',Ir hb.order hd']) x
 have key:=OG (U:=due d nm) e1 e2 (Et h hl1 nm) (Et h hl2 nm) (fun _ h=>h) (fun _ h=>h) (fun _ _ _ _=>Iff.rfl) (fun _ _ _ h=>h) (fun _ _ _ h=>h)
  fun i _ j _=>Classical.or_iff_not_imp_left.2 (off j)
 have all:aY a=aY b:=by
  funext s x
  by_cases hs:due d nm s
  · exact key s hs x
  · exact off s hs x
 refine anP ha.order hb.order fun i hi=>?_
 cases hn:nm (nameOf d i) with
 |false=>rw [ha.kept i hi hn,hb.kept i hi hn]
 |true=>rw [ha.fix i hi hn,hb.fix i hi hn,all]
def Zr {ι α:Type} (S:Sys ι α) (N:ι→Prop) (aC:ι→Nat) (k:Nat) (X:Ext ι α):Prop:=
 ∀ Y:Ext ι α,(∀ i,¬ (N i∧aC i=k)→∀ x,Y i x=X i x)→(∀ i,N i→aC i=k→∀ x,S.T i Y x→Y i x=true)→∀ i,N i→aC i=k→∀ x,X i x=true→Y i x=true
open Classical in
theorem aiC {ι α:Type} {S:Sys ι α} {N:ι→Prop} {aC:ι→Nat} (hs:akZ S N aC) {m:Nat} {X X':Ext ι α} (h:∀ i,¬ (N i∧m<aC i)→∀ x,X i x=X' i x) (hX:Zr S N aC m X):Zr S N aC m X':=by
 intro Y hY hp i hi hl x hx
 have key:=hX (fun i x=>if N i∧m<aC i then X i x else Y i x) (fun j hj y=>?_) (fun j hj hlj y hy=>?_) i hi hl x (by rw [h i (by omega)];exact hx)
 · rw [if_neg (by omega)] at key;exact key
 · by_cases hc:N j∧m<aC j
   · rw [if_pos hc]
   · rw [if_neg hc,hY j hj,h j hc]
 · rw [if_neg (by omega)]
   have same:∀ t,(S.pos j t∨S.neg j t)→¬ (N t∧m<aC t):=fun t ht hc=>by
    rcases ht with ht|ht
    · have:=(hs j t hj hc.1).1 ht;omega
    · have:=(hs j t hj hc.1).2 ht;omega
   refine hp j hj hlj y (S.mono j _ Y (fun t ht z hz=>?_) (fun t ht z=>?_) y hy)
   · rw [if_neg (same t (.inl ht))] at hz;exact hz
   · rw [if_neg (same t (.inr ht))]
def canon (fs:List aZ) (l:List (Int×Unit)):Prop:=l=(fs.filter fun f=>eH l f.1).map fun f=>(f.1,())
def distinct (fs:List aZ):Prop:=∀ f∈fs,∀ g∈fs,f.1=g.1→f=g
theorem ap9 {fs:List aZ} (hd:distinct fs) (q:List bD) (X:BX):canon fs (sel fs q X):=by
 show _=List.map _ (List.filter _ _)
 conv=>lhs;unfold sel
 congr 1
 apply List.filter_congr
 intro f hf
 rw [Bool.eq_iff_iff,EP,aiB]
 exact ⟨fun h=>⟨f,hf,rfl,h⟩,fun ⟨g,hg,e,hm⟩=>by rw [hd f hf g hg e.symm];exact hm⟩
theorem ajT {fs:List aZ} {l:List (Int×Unit)} (h:canon fs l):l.length≤fs.length:=by
 rw [h,List.length_map];exact List.length_filter_le _ _
theorem filter_lt {α:Type} {p q:α→Bool} (h:∀ x,p x=true→q x=true):∀ {l:List α},(∃ x∈l,q x=true∧p x=false)→(l.filter p).length<(l.filter q).length
 |[],h'=>by obtain ⟨x,hx,_⟩:=h';cases hx
 |y::r,h'=>by
  have le:(r.filter p).length≤(r.filter q).length:=by
   clear h'
   induction r with
   |nil=>exact Nat.le_refl _
   |cons z t ih=>
    cases hp:p z with
    |true=>rw [List.filter_cons_of_pos hp,List.filter_cons_of_pos (h z hp)];simpa using ih
    |false=>
     rw [List.filter_cons_of_neg (by simp [hp])]
     cases hq:q z with
     |true=>rw [List.filter_cons_of_pos hq];exact Nat.le_succ_of_le ih
     |false=>rw [List.filter_cons_of_neg (by simp [hq])];exact ih
  obtain ⟨x,hx,hq,hp⟩:=h'
  rcases List.mem_cons.1 hx with rfl|hx
  · rw [List.filter_cons_of_pos hq,List.filter_cons_of_neg (by simp [hp])]
    exact Nat.lt_succ_of_le le
  · have ih:=filter_lt h ⟨x,hx,hq,hp⟩
    cases hp':p y with
    |true=>rw [List.filter_cons_of_pos hp',List.filter_cons_of_pos (h y hp')];simpa using ih
    |false=>
     rw [List.filter_cons_of_neg (by simp [hp'])]
     cases hq':q y with
     |true=>rw [List.filter_cons_of_pos hq'];exact Nat.lt_succ_of_lt ih
     |false=>rw [List.filter_cons_of_neg (by simp [hq'])];exact ih
theorem aoW {fs:List aZ} {a b:List (Int×Unit)} (ha:canon fs a) (hb:canon fs b) (h:∀ x,eH a x=true→eH b x=true) (hne:b≠a):a.length<b.length:=by
 rw [ha,hb,List.length_map,List.length_map]
 refine filter_lt (p:=fun f:aZ=>eH a f.1) (q:=fun f:aZ=>eH b f.1) (fun f=>h f.1) (Classical.byContradiction fun hno=>hne ?_)
 rw [ha,hb]
 congr 1
 apply List.filter_congr
 intro f hf
 cases hb':eH b f.1 with
 |false=>
  cases ha':eH a f.1 with
  |false=>rfl
  |true=>rw [h _ ha'] at hb';cases hb'
 |true=>
  cases ha':eH a f.1 with
  |true=>rfl
  |false=>exact (hno ⟨f,hf,hb',ha'⟩).elim
structure oq (fs:List aZ) (d:List aH) (r:List dn) (nm:Bytes→Bool) (aC:List (Int×Unit)) (k:Nat) (out:List dn):Prop where
 order:vK d out
 kept:∀ i,i<d.length→nm (nameOf d i)=false→iw out i=eU r (nameOf d i)
 later:∀ i,i<d.length→nm (nameOf d i)=true→(k:Int)<lv aC i→iw out i=[]
 done:∀ i,i<d.length→nm (nameOf d i)=true→lv aC i<k→iw out i=sel fs (dK d i) (aY out)
 Yq:∀ m,m<k→Zr (NV fs d) (due d nm) (IV d aC) m (aY out)
 amq:∀ i,i<d.length→nm (nameOf d i)=true→lv aC i=k→∀ x,eH (iw out i) x=true→(x,())∈sel fs (dK d i) (aY out)
 least:Zr (NV fs d) (due d nm) (IV d aC) k (aY out)
 canon:∀ i,i<d.length→nm (nameOf d i)=true→canon fs (iw out i)
theorem aqK {fs:List aZ} {d:List aH} {r:List dn} {nm:Bytes→Bool} {aC:List (Int×Unit)} (h:bJ d=true) (hl:jE d aC) {out:List dn} (ho:vK d out)
 (h1:∀ i,i<d.length→nm (nameOf d i)=false→iw out i=eU r (nameOf d i)) (h2:∀ i,i<d.length→nm (nameOf d i)=true→iw out i=[]):oq fs d r nm aC 0 out where
 order:=ho
 kept:=h1
 later:=fun i hi hn _=>h2 i hi hn
 done:=fun i hi _ hlt=>by have:=(hl.2.1 i hi).1;omega
 Yq:=fun m hm=>by omega
 amq:=fun i hi hn _ x hx=>by rw [h2 i hi hn] at hx;cases hx
 least:=fun Y _ _ s hs _ x hx=>by
  obtain ⟨hn,i,hi,rfl⟩:=hs
  have hx:eH (eU out (nameOf d i)) x=true:=hx
  rw [wC h ho hi,h2 i hi hn] at hx;cases hx
 canon:=fun i hi hn=>by rw [h2 i hi hn];show []=List.map _ (List.filter _ _);rw [List.filter_eq_nil_iff.2 (fun f _=>by simp [eH])];rfl
theorem NW {out:List dn} {i j:Nat} {x:dn} (hi:i<out.length):uH (out.set i x) j=if j=i then x else uH out j:=by
 unfold uH
 rw [List.getD_eq_getElem?_getD,List.getElem?_set]
 by_cases h:j=i
 · subst h;rw [if_pos rfl,if_pos hi,if_pos rfl];rfl
 · rw [if_neg (fun e=>h e.symm),if_neg h,← List.getD_eq_getElem?_getD]
theorem ajU {d:List aH} {out:List dn} (ho:vK d out) {i:Nat} (hi:i<d.length) (l:List (Int×Unit)):vK d (out.set i (nameOf d i,l,())):=by
 refine ⟨by rw [List.length_set];exact ho.1,fun j hj=>?_⟩
 rw [NW (by rw [ho.1];exact hi)]
 split
 · next e=>rw [e]
 · exact ho.2 j hj
theorem aqa {d:List aH} (h:bJ d=true) {out:List dn} (ho:vK d out) {i:Nat} (hi:i<d.length) (l:List (Int×Unit)):
 (∀ x,aY (out.set i (nameOf d i,l,())) (nameOf d i) x=eH l x)∧∀ s,s≠nameOf d i→∀ x,aY (out.set i (nameOf d i,l,())) s x=aY out s x:=by
 have ho':=ajU ho hi l
 refine ⟨fun x=>?_,fun s hs x=>?_⟩
 · refine Zq ?_ x
   rw [wC h ho' hi]
   unfold iw
   rw [NW (by rw [ho.1];exact hi),if_pos rfl]
 · refine Zq ?_ x
   by_cases hd:∃ j,j<d.length∧nameOf d j=s
   · obtain ⟨j,hj,rfl⟩:=hd
     rw [wC h ho' hj,wC h ho hj]
     unfold iw
     rw [NW (by rw [ho.1];exact hi),if_neg (fun e=>hs (by rw [e]))]
   · have hd':∀ i,i<d.length→nameOf d i≠s:=fun i hi e=>hd ⟨i,hi,e⟩
     rw [Ir ho' hd',Ir ho hd']
theorem Zt {fs:List aZ} {d:List aH} (h:bJ d=true) {i:Nat} (hi:i<d.length) {X:BX} {x:Int}:(NV fs d).T (nameOf d i) X x↔(x,())∈sel fs (dK d i) X:=by
 constructor
 · rintro ⟨j,hj,e,hx⟩
   have:=Es h hj hi e
   subst this;exact hx
 · exact fun hx=>⟨i,hi,rfl,hx⟩
theorem at_set {fs:List aZ} {d:List aH} {r:List dn} {nm:Bytes→Bool} {aC:List (Int×Unit)} {k:Nat} {out:List dn} (h:bJ d=true) (hl:jE d aC) (hf:distinct fs) (A:oq fs d r nm aC k out) {i:Nat} (hi:i<d.length) (hn:nm (nameOf d i)=true) (hk:lv aC i=k):
 oq fs d r nm aC k (out.set i (nameOf d i,sel fs (dK d i) (aY out),()))∧(sel fs (dK d i) (aY out)≠iw out i→(iw out i).length<(sel fs (dK d i) (aY out)).length)∧(sel fs (dK d i) (aY out)).length≤fs.length:=by
 have hc:=ap9 hf (dK d i) (aY out)
 have hol:i<out.length:=by rw [A.order.1];exact hi
 have hs:=Et (fs:=fs) h hl nm
 have hd:due d nm (nameOf d i):=⟨hn,i,hi,rfl⟩
 have hlv:IV d aC (nameOf d i)=k:=by rw [zi h hi,hk];rfl
 obtain ⟨g1,g2⟩:=aqa h A.order hi (sel fs (dK d i) (aY out))
 have up:∀ s x,aY out s x=true→aY (out.set i (nameOf d i,sel fs (dK d i) (aY out),())) s x=true:=fun s x hx=>by
  by_cases e:s=nameOf d i
  · subst e
    rw [g1,EP]
    refine A.amq i hi hn hk x ?_
    have hx:eH (eU out (nameOf d i)) x=true:=hx
    rw [wC h A.order hi] at hx;exact hx
  · rw [g2 s e];exact hx
 have off:∀ s,¬ (due d nm s∧IV d aC s=k)→∀ x,aY out s x=aY (out.set i (nameOf d i,sel fs (dK d i) (aY out),())) s x:=fun s hs' x=>(g2 s (fun e=>hs' (by rw [e];exact ⟨hd,hlv⟩)) x).symm
 have ids:∀ j,iw (out.set i (nameOf d i,sel fs (dK d i) (aY out),())) j=if j=i then sel fs (dK d i) (aY out) else iw out j:=fun j=>by
  unfold iw
  rw [NW hol]
  split<;>rfl
 refine ⟨⟨ajU A.order hi _,fun j hj Qw=>?_,fun j hj Qw hlj=>?_,fun j hj Qw hlj=>?_,fun m hm=>?_,fun j hj Qw hlj x hx=>?_,?_,fun j hj Qw=>?_⟩,fun hne=>?_,ajT hc⟩
 · rw [ids,if_neg (fun e=>by rw [e,hn] at Qw;cases Qw)];exact A.kept j hj Qw
 · rw [ids,if_neg (fun e=>by rw [e,hk] at hlj;omega)];exact A.later j hj Qw hlj
 · rw [ids,if_neg (fun e=>by rw [e,hk] at hlj;omega),A.done j hj Qw hlj]
   refine Yn fun b s hsd x=>off s (fun hc=>?_) x
   have hdj:due d nm (nameOf d j):=⟨Qw,j,hj,rfl⟩
   have:=hs (nameOf d j) s hdj hc.1
   have auc:IV d aC (nameOf d j)<k:=by rw [zi h hj];have:=(hl.2.1 j hj).1;omega
   cases b with
   |false=>have:=this.1 ⟨j,hj,rfl,hsd⟩;omega
   |true=>have:=this.2 ⟨j,hj,rfl,hsd⟩;omega
 · exact aiC hs (fun s hs'=>off s fun hc=>hs' ⟨hc.1,by omega⟩) (A.Yq m hm)
 · have hT:(NV fs d).T (nameOf d j) (aY out) x:=by
    rw [Zt h hj]
    rw [ids] at hx
    by_cases e:j=i
    · rw [if_pos e,EP] at hx;rw [e];exact hx
    · rw [if_neg e] at hx;exact A.amq j hj Qw hlj x hx
   rw [← Zt h hj]
   refine (NV fs d).mono _ _ _ (fun s _=>up s) (fun s hsd=>off s fun hc=>?_) x hT
   have:=(hs (nameOf d j) s ⟨Qw,j,hj,rfl⟩ hc.1).2 hsd
   have auc:IV d aC (nameOf d j)=k:=by rw [zi h hj,hlj];rfl
   omega
 · intro Y hY hp s hsd hls x hx
   have WX:∀ t,¬ (due d nm t∧IV d aC t=k)→∀ x,Y t x=aY out t x:=fun t ht x=>(hY t ht x).trans (off t ht x).symm
   have base:=A.least Y WX hp
   by_cases e:s=nameOf d i
   · subst e
     rw [g1,EP,← Zt h hi] at hx
     refine hp _ hsd hls x ((NV fs d).mono _ _ _ (fun t _ y hy=>?_) (fun t ht y=>?_) x hx)
     · by_cases ht:due d nm t∧IV d aC t=k
       · exact base t ht.1 ht.2 y hy
       · rw [WX t ht];exact hy
     · refine (WX t (fun hc=>?_) y).symm
       have:=(hs (nameOf d i) t hd hc.1).2 ht
       omega
   · rw [g2 s e] at hx
     exact base s hsd hls x hx
 · rw [ids]
   split
   · exact hc
   · exact A.canon j hj Qw
 · refine aoW (A.canon i hi hn) hc (fun x hx=>?_) hne
   rw [EP];exact A.amq i hi hn hk x hx
theorem at_next {fs:List aZ} {d:List aH} {r:List dn} {nm:Bytes→Bool} {aC:List (Int×Unit)} {k:Nat} {out:List dn} (h:bJ d=true) (A:oq fs d r nm aC k out) (hstill:∀ i,i<d.length→nm (nameOf d i)=true→lv aC i=k→sel fs (dK d i) (aY out)=iw out i):oq fs d r nm aC (k+1) out where
 order:=A.order
 kept:=A.kept
 later:=fun i hi hn hlt=>A.later i hi hn (by omega)
 done:=fun i hi hn hlt=>by
  by_cases e:lv aC i=k
  · exact (hstill i hi hn e).symm
  · exact A.done i hi hn (by omega)
 Yq:=fun m hm=>by
  by_cases e:m=k
  · subst e;exact A.least
  · exact A.Yq m (by omega)
 amq:=fun i hi hn hl x hx=>by rw [A.later i hi hn (by omega)] at hx;cases hx
 least:=fun Y _ _ s hs hls x hx=>by
  obtain ⟨hn,i,hi,rfl⟩:=hs
  rw [zi h hi] at hls
  have hx:eH (eU out (nameOf d i)) x=true:=hx
  rw [wC h A.order hi,A.later i hi hn (by omega)] at hx;cases hx
 canon:=A.canon
theorem at_end {fs:List aZ} {d:List aH} {r:List dn} {nm:Bytes→Bool} {aC:List (Int×Unit)} {k:Nat} {out:List dn} (h:bJ d=true) (hl:jE d aC) (A:oq fs d r nm aC k out) (hk:∀ i,i<d.length→lv aC i<k):fH fs d r nm out where
 order:=A.order
 kept:=A.kept
 fix:=fun i hi hn=>A.done i hi hn (hk i hi)
 aC:=⟨aC,hl,{
  fix:=fun s hs x=>by
   obtain ⟨hn,i,hi,rfl⟩:=hs
   rw [Zt h hi,← A.done i hi hn (hk i hi),← EP,← wC h A.order hi];rfl
  least:=fun m Y hY hp s hs hls=>by
   have hm:m<k:=by
    obtain ⟨hn,i,hi,rfl⟩:=hs
    rw [zi h hi] at hls
    have:=hk i hi
    have:=(hl.2.1 i hi).1
    omega
   exact A.Yq m hm Y hY hp s hs hls}⟩
def room (n:Nat) (out:List dn):Nat:=(out.map fun x=>n-x.2.1.length).sum
theorem adv {n:Nat}:∀ {out:List dn} {i:Nat} {x:dn},i<out.length→(iw out i).length<x.2.1.length→x.2.1.length≤n→room n (out.set i x)<room n out
 |[],i,x,h,_,_=>by simp at h
 |y::r,0,x,_,h1,h2=>by
  have h1:y.2.1.length<x.2.1.length:=h1
  show ((x::r).map fun x=>n-x.2.1.length).sum<((y::r).map fun x=>n-x.2.1.length).sum
  rw [List.map_cons,List.sum_cons,List.map_cons,List.sum_cons]
  omega
 |y::r,i+1,x,h,h1,h2=>by
  have ih:=adv (out:=r) (i:=i) (x:=x) (by simpa using h) h1 h2
  show ((y::r.set i x).map fun x=>n-x.2.1.length).sum<((y::r).map fun x=>n-x.2.1.length).sum
  rw [List.map_cons,List.sum_cons,List.map_cons,List.sum_cons]
  unfold room at ih
  omega
end Sp
namespace Sp
open Go
abbrev FX:=Bytes×List (Int×Unit)×List (Int×Unit)×Unit
abbrev ny:=List fV×List aZ×Int×List aH×List dn×Unit
instance:DecidableEq (List (Int×Unit)):=inferInstance
instance:DecidableEq dn:=inferInstance
instance:DecidableEq (List dn):=inferInstance
instance:DecidableEq (List dn×Unit):=inferInstance
instance:DecidableEq (List aH×List dn×Unit):=inferInstance
instance:DecidableEq (Int×List aH×List dn×Unit):=inferInstance
instance:DecidableEq (List aZ×Int×List aH×List dn×Unit):=inferInstance
instance auZ:DecidableEq ny:=(inferInstance:DecidableEq (List fV×List aZ×Int×List aH×List dn×Unit))
def eP (l:LS) (s:Bytes):Bool:=l.any fun x=>x.1==s
theorem iG {l:LS} {s:Bytes}:eP l s=true↔(s,())∈l:=by
 unfold eP
 rw [List.any_eq_true]
 exact ⟨fun ⟨y,hy,h⟩=>by rw [← beq_iff_eq.1 h];exact hy,fun h=>⟨_,h,beq_iff_eq.2 rfl⟩⟩
def bg (r:List dn):Prop:=r.length≤1000∧∀ x∈r,x.2.1.length≤1000
def mJ (c:ny):dG:=(c.1,c.2.1,c.2.2.1,())
def fM (c:ny):List aH:=c.2.2.2.1
def CQ (c:ny):List dn:=c.2.2.2.2.1
def gq (c:ny):Prop:=bQ (mJ c)∧aB (fM c)∧bg (CQ c)
def as8 (f:aZ):Prop:=f.2.2.2.2.1.length≤500
def arf (c:ny):Prop:=∀ f∈c.2.1,as8 f
def kP (d:List aH):LS:=d.map fun x=>(x.1,())
def VY (d:List aH) (m:Int):Prop:=m≤1000∧∀ aC,ax d=true→jE d aC→∀ i,i<d.length→lv aC i≤m
open Classical in
noncomputable def gy (c:ny):Bool:=ax (fM c)&&aJ (mJ c)&&decide (fH c.2.1 (fM c) [] (fun _=>true) (CQ c))
def J7 (q:List bD):List Bytes:=(q.filter fun n=>n.1==2||(n.1==3||n.1==4)).map fun n=>n.2.2.2.1
def qo (q:List bD):List Bytes:=(q.filter jh).map fun n=>n.2.2.2.1
def asking (d:List aH) (name:Bytes):LS:=(d.filter fun x=>(qo x.2.1).contains name).map fun x=>(x.1,())
inductive Reach (d:List aH) (P:Bytes→Prop):Bytes→Prop where
 |base {s}:P s→Reach d P s
 |step {s i}:Reach d P s→i<d.length→s∈qo (dK d i)→Reach d P (nameOf d i)
def isSet (r:LS) (P:Bytes→Prop):Prop:=r.length≤1000∧∀ s,eP r s=true↔P s
def reached (d:List aH) (names r:LS):Prop:=isSet r (Reach d fun s=>eP names s=true)
open Classical in
def without (a b:List (Int×Unit)):List (Int×Unit):=a.filter fun x=>!eH b x.1
def vG (a:List dn) (x:dn):FX:=(x.1,without x.2.1 (eU a x.1),without (eU a x.1) x.2.1,())
def yY (y:FX):Bool:=decide (0<y.2.1.length+y.2.2.1.length)
def He (a b:List dn):List FX:=(b.map (vG a)).filter yY
def turned (c:ny) (s:dG) (d:List aH) (nm:Bytes→Bool) (c':ny) (df:List FX) (ok:Bool):Prop:=
 ok=(ax d&&aJ s)∧(ok=true→mJ c'=s∧fM c'=d∧fH s.2.1 d (CQ c) nm (CQ c')∧df=He (CQ c) (CQ c'))∧(ok=false→c'=c∧df=[])
def Y8 (c:ny):Prop:=gq c∧c.1=usual∧0<c.2.1.length∧gy c=true
def GV (fs:List aZ) (d:List aH) (r:List dn) (nm:Bytes→Bool) (aC:List (Int×Unit)) (k:Nat) (Yr:List dn) (i:Nat) (c:Bool) (out:List dn):Prop:=
 oq fs d r nm aC k out∧(c=true→room fs.length out<room fs.length Yr)∧
  (c=false→out=Yr∧∀ j,j<i→j<d.length→nm (nameOf d j)=true→lv aC j=k→sel fs (dK d j) (aY out)=iw out j)
theorem Ai {fs:List aZ} {d:List aH} {r:List dn} {nm:Bytes→Bool} {aC:List (Int×Unit)} {k i:Nat} {Yr out:List dn} {c:Bool} (h:GV fs d r nm aC k Yr i c out) (hs:nm (nameOf d i)=true→lv aC i=k→sel fs (dK d i) (aY out)=iw out i):GV fs d r nm aC k Yr (i+1) c out:=
 ⟨h.1,h.2.1,fun hc=>⟨(h.2.2 hc).1,fun j hj hd hn hl=>by
   rcases Nat.lt_or_ge j i with h'|h'
   · exact (h.2.2 hc).2 j h' hd hn hl
   · have:j=i:=by omega
     subst this;exact hs hn hl⟩⟩
theorem ada {fs:List aZ} {d:List aH} {r:List dn} {nm:Bytes→Bool} {aC:List (Int×Unit)} {k i:Nat} {Yr out:List dn} {c:Bool} (hd:bJ d=true) (hl:jE d aC) (hf:distinct fs) (h:GV fs d r nm aC k Yr i c out) (hi:i<d.length) (hn:nm (nameOf d i)=true) (hk:lv aC i=k) (hne:sel fs (dK d i) (aY out)≠iw out i):
 GV fs d r nm aC k Yr (i+1) true (out.set i ((uH out i).1,sel fs (dK d i) (aY out),())):=by
 obtain ⟨A,h1,h2⟩:=h
 rw [A.order.2 i hi]
 obtain ⟨g1,g2,g3⟩:=at_set hd hl hf A hi hn hk
 refine ⟨g1,fun _=>?_,fun h=>by cases h⟩
 have hr:room fs.length (out.set i (nameOf d i,sel fs (dK d i) (aY out),()))<room fs.length out:=adv (by rw [A.order.1];exact hi) (g2 hne) g3
 cases c with
 |true=>have:=h1 rfl;omega
 |false=>rw [(h2 rfl).1] at hr ⊢;exact hr
theorem OB {fs:List aZ} {d:List aH} {r:List dn} {nm:Bytes→Bool} {aC:List (Int×Unit)} {k:Nat} {out:List dn} (A:oq fs d r nm aC k out) (hd:d.length≤1000) (hf:fs.length≤1000) (hr:bg r):bg out:=by
 refine ⟨by rw [A.order.1];exact hd,fun x hx=>?_⟩
 obtain ⟨i,hi,rfl⟩:=List.getElem_of_mem hx
 have hi':i<d.length:=by rw [← A.order.1];exact hi
 have e:(out[i]).2.1=iw out i:=by
  unfold iw uH
  rw [List.getD_eq_getElem?_getD,List.getElem?_eq_getElem hi];rfl
 rw [e]
 cases hn:nm (nameOf d i) with
 |true=>exact Nat.le_trans (ajT (A.canon i hi' hn)) hf
 |false=>
  rw [A.kept i hi' hn]
  have:∀ l:List dn,(∀ x∈l,x.2.1.length≤1000)→(eU l (nameOf d i)).length≤1000:=by
   intro l
   induction l with
   |nil=>exact fun _=>Nat.zero_le _
   |cons x t ih=>
    intro hl
    rw [eU]
    cases x.1==nameOf d i with
    |true=>exact hl x List.mem_cons_self
    |false=>exact ih fun y hy=>hl y (List.mem_cons_of_mem _ hy)
  exact this r hr.2
def rO (r:List dn) (nm:Bytes→Bool) (x:aH):dn:=(x.1,bif nm x.1 then [] else eU r x.1,())
theorem adw {d:List aH} {r:List dn} {nm:Bytes→Bool} {i:Nat} (hi:i<d.length):uH (d.map (rO r nm)) i=rO r nm (bI d i):=by
 unfold uH bI
 rw [List.getD_eq_getElem?_getD,List.getD_eq_getElem?_getD,List.getElem?_map,List.getElem?_eq_getElem hi];rfl
theorem Ht {fs:List aZ} {d:List aH} {r:List dn} {nm:Bytes→Bool} {aC:List (Int×Unit)} (hd:bJ d=true) (hl:jE d aC):oq fs d r nm aC 0 (d.map (rO r nm)):=by
 refine aqK hd hl ⟨by simp,fun i hi=>?_⟩ (fun i hi hn=>?_) fun i hi hn=>?_
 · rw [adw hi];rfl
 · unfold iw
   rw [adw hi]
   show (bif nm (nameOf d i) then [] else eU r (nameOf d i))=_
   rw [hn];rfl
 · unfold iw
   rw [adw hi]
   show (bif nm (nameOf d i) then [] else eU r (nameOf d i))=_
   rw [hn];rfl
theorem amr {s:dG} (h:aJ s=true):∀ (j i:Nat),i<j→j<s.2.1.length→(fileAt s.2.1 i).1<(fileAt s.2.1 j).1:=by
 intro j
 induction j with
 |zero=>intro i hi;omega
 |succ j ih=>
  intro i hi hj
  have h1:jU s (j+1)=true:=by
   unfold aJ at h
   rw [Bool.and_eq_true,Bool.and_eq_true,Bool.and_eq_true] at h
   have:=h.1.1.1
   unfold jk at this
   exact List.all_eq_true.1 this (j+1) (List.mem_range.2 hj)
  have h2:(fileAt s.2.1 j).1<(fileAt s.2.1 (j+1)).1:=by
   unfold jU at h1
   rw [Bool.and_eq_true] at h1
   have:=h1.2
   rw [decide_eq_true (Nat.succ_pos j)] at this
   simpa using this
  rcases Nat.lt_or_ge i j with h3|h3
  · exact Int.lt_trans (ih i h3 (by omega)) h2
  · have:i=j:=by omega
    subst this;exact h2
theorem xE {s:dG} (h:aJ s=true):distinct s.2.1:=by
 intro f hf g hg e
 obtain ⟨i,hi,rfl⟩:=List.getElem_of_mem hf
 obtain ⟨j,hj,rfl⟩:=List.getElem_of_mem hg
 have at_:∀ k (hk:k<s.2.1.length),fileAt s.2.1 k=s.2.1[k]:=fun k hk=>by
  unfold fileAt
  rw [List.getD_eq_getElem?_getD,List.getElem?_eq_getElem hk];rfl
 rcases Nat.lt_trichotomy i j with h1|h1|h1
 · have:=amr h j i h1 hj
   rw [at_ i hi,at_ j hj] at this;omega
 · subst h1;rfl
 · have:=amr h i j h1 hi
   rw [at_ i hi,at_ j hj] at this;omega
theorem am0 {fs:List aZ} {d:List aH} {r r':List dn} {nm nm':Bytes→Bool} {out:List dn} (h:fH fs d r nm out) (hn:∀ i,i<d.length→nm (nameOf d i)=nm' (nameOf d i)) (hr:∀ i,i<d.length→nm (nameOf d i)=false→eU r (nameOf d i)=eU r' (nameOf d i)):fH fs d r' nm' out:=by
 have hd:∀ s,due d nm s↔due d nm' s:=fun s=>by
  constructor
  · rintro ⟨a,i,hi,rfl⟩;exact ⟨by rw [← hn i hi];exact a,i,hi,rfl⟩
  · rintro ⟨a,i,hi,rfl⟩;exact ⟨by rw [hn i hi];exact a,i,hi,rfl⟩
 obtain ⟨aC,h1,h2⟩:=h.aC
 exact ⟨h.order,fun i hi h'=>by rw [← hn i hi] at h';rw [h.kept i hi h',hr i hi h'],fun i hi h'=>h.fix i hi (by rw [hn i hi];exact h'),aC,h1,
  fun s hs=>h2.fix s ((hd s).2 hs),fun k Y hY hp s hs=>h2.least k Y (fun t ht=>hY t fun h'=>ht ⟨(hd t).2 h'.1,h'.2⟩) (fun t ht=>hp t ((hd t).1 ht)) s ((hd s).2 hs)⟩
theorem aoX {fs:List aZ} {d:List aH} {r:List dn} {nm:Bytes→Bool} {aC:List (Int×Unit)} {k:Nat} (hd:bJ d=true) (hl:jE d aC) (hf:distinct fs):∀ (n:Nat) (out:List dn),room fs.length out≤n→oq fs d r nm aC k out→∃ out',oq fs d r nm aC (k+1) out':=by
 intro n
 induction n using Nat.strongRecOn with
 |_ n ih=>
  intro out hn A
  by_cases hs:∀ i,i<d.length→nm (nameOf d i)=true→lv aC i=k→sel fs (dK d i) (aY out)=iw out i
  · exact ⟨out,at_next hd A hs⟩
  · obtain ⟨i,hi⟩:=Classical.not_forall.1 hs
    have h1:i<d.length:=Classical.byContradiction fun h=>hi fun h'=>(h h').elim
    have h2:nm (nameOf d i)=true:=Classical.byContradiction fun h=>hi fun _ h'=>(h h').elim
    have h3:lv aC i=k:=Classical.byContradiction fun h=>hi fun _ _ h'=>(h h').elim
    have h4:sel fs (dK d i) (aY out)≠iw out i:=fun h=>hi fun _ _ _=>h
    obtain ⟨g1,g2,g3⟩:=at_set hd hl hf A h1 h2 h3
    have hr:room fs.length (out.set i (nameOf d i,sel fs (dK d i) (aY out),()))<room fs.length out:=adv (by rw [A.order.1];exact h1) (g2 h4) g3
    exact ih _ (by omega) _ (Nat.le_refl _) g1
theorem SB {fs:List aZ} {d:List aH} (r:List dn) (nm:Bytes→Bool) {aC:List (Int×Unit)} (hd:bJ d=true) (hl:jE d aC) (hf:distinct fs):∃ out,fH fs d r nm out:=by
 have:∀ k,∃ out,oq fs d r nm aC k out:=fun k=>by
  induction k with
  |zero=>exact ⟨_,Ht hd hl⟩
  |succ k ih=>
   obtain ⟨out,A⟩:=ih
   exact aoX hd hl hf _ out (Nat.le_refl _) A
 obtain ⟨out,A⟩:=this (d.length+1)
 exact ⟨out,at_end hd hl A fun i hi=>by have:=(hl.2.1 i hi).2;omega⟩
end Sp
namespace Sp
open Go
theorem G7 {d:List aH} {out:List dn} (ho:vK d out) {s:Bytes} (hs:¬ ∃ i,i<d.length∧nameOf d i=s) (x:Int):aY out s x=false:=by
 unfold aY
 rw [Ir ho fun i hi e=>hs ⟨i,hi,e⟩];rfl
theorem incr {fs fs':List aZ} {d d':List aH} {old R E:List dn} {nm:Bytes→Bool} (hd:bJ d=true) (hd':bJ d'=true)
 (h1:fH fs d [] (fun _=>true) old) (h2:fH fs' d' old nm R) (h3:fH fs' d' [] (fun _=>true) E)
 (hcl:∀ i,i<d'.length→nm (nameOf d' i)=false→(∃ j,j<d.length∧nameOf d j=nameOf d' i∧dK d j=dK d' i)∧(∀ X,sel fs (dK d' i) X=sel fs' (dK d' i) X)∧∀ b,∀ s∈dZ (dK d' i) b,nm s=false)
 (hsub:∀ j,j<d.length→∃ i,i<d'.length∧nameOf d' i=nameOf d j):R=E:=by
 obtain ⟨l1,hl1,e1⟩:=h1.aC
 obtain ⟨l2,hl2,e2⟩:=h2.aC
 obtain ⟨l3,hl3,e3⟩:=h3.aC
 have out1:∀ s,(¬ ∃ i,i<d'.length∧nameOf d' i=s)→∀ x,aY old s x=false:=fun s hs x=>
  G7 h1.order (fun ⟨j,hj,e⟩=>by obtain ⟨i,hi,e'⟩:=hsub j hj;exact hs ⟨i,hi,e'.trans e⟩) x
 have aud:=OG (U:=fun s=>nm s=false∧∃ i,i<d'.length∧nameOf d' i=s) e1 e3 (Et hd hl1 _) (Et hd' hl3 _)
  (fun s ⟨hn,i,hi,e⟩=>by subst e;obtain ⟨j,hj,e,_⟩:=(hcl i hi hn).1;exact ⟨rfl,j,hj,e⟩) (fun s ⟨_,hs⟩=>⟨rfl,hs⟩)
  (fun s ⟨hn,i,hi,e⟩ X x=>by
    subst e
    obtain ⟨⟨j,hj,e,eq⟩,hsel,_⟩:=hcl i hi hn
    rw [Zt hd' hi,← e,Zt hd hj,eq,hsel X])
  (fun s ⟨hn,i,hi,e⟩ t ⟨i2,hi2,e2,ht⟩=>by
    subst e
    obtain ⟨⟨j,hj,e,eq⟩,_⟩:=hcl i hi hn
    have:=Es hd' hi2 hi e2
    subst this
    exact ⟨j,hj,e,by unfold dK at eq;rw [eq];exact ht⟩)
  (fun s ⟨hn,i,hi,e⟩ t ⟨i2,hi2,e2,ht⟩=>by
    subst e
    obtain ⟨⟨j,hj,e,eq⟩,_⟩:=hcl i hi hn
    have:=Es hd' hi2 hi e2
    subst this
    exact ⟨j,hj,e,by unfold dK at eq;rw [eq];exact ht⟩)
  (fun s ⟨hn,i,hi,e⟩ t ht=>by
    subst e
    obtain ⟨⟨j,hj,e,eq⟩,_,aoY⟩:=hcl i hi hn
    have hnt:nm t=false:=by
     rcases ht with ⟨j2,hj2,e2,ht⟩|⟨j2,hj2,e2,ht⟩
     · have:=Es hd hj2 hj (e2.trans e.symm)
       subst this
       exact aoY false t (by rw [← eq];exact ht)
     · have:=Es hd hj2 hj (e2.trans e.symm)
       subst this
       exact aoY true t (by rw [← eq];exact ht)
    by_cases hin:∃ i,i<d'.length∧nameOf d' i=t
    · exact .inl ⟨hnt,hin⟩
    · exact .inr fun x=>by rw [out1 t hin,G7 h3.order hin])
 have off:∀ s,nm s=false→∀ x,aY old s x=aY E s x:=fun s hn x=>by
  by_cases hin:∃ i,i<d'.length∧nameOf d' i=s
  · exact aud s ⟨hn,hin⟩ x
  · rw [out1 s hin,G7 h3.order hin]
 have aue:=OG (U:=due d' nm) e2 e3 (Et hd' hl2 _) (Et hd' hl3 _) (fun _ h=>h) (fun s ⟨_,h⟩=>⟨rfl,h⟩) (fun _ _ _ _=>Iff.rfl) (fun _ _ _ h=>h) (fun _ _ _ h=>h)
  fun s _ t _=>by
   by_cases ht:due d' nm t
   · exact .inl ht
   · refine .inr fun x=>?_
     by_cases hin:∃ i,i<d'.length∧nameOf d' i=t
     · obtain ⟨i,hi,rfl⟩:=hin
       have hn:nm (nameOf d' i)=false:=by rw [Bool.eq_false_iff];exact fun hn=>ht ⟨hn,i,hi,rfl⟩
       rw [← off _ hn]
       unfold aY
       rw [wC hd' h2.order hi,h2.kept i hi hn]
     · rw [G7 h2.order hin,G7 h3.order hin]
 have all:∀ s x,aY R s x=aY E s x:=fun s x=>by
  by_cases hs:due d' nm s
  · exact aue s hs x
  · by_cases hin:∃ i,i<d'.length∧nameOf d' i=s
    · obtain ⟨i,hi,rfl⟩:=hin
      have hn:nm (nameOf d' i)=false:=by rw [Bool.eq_false_iff];exact fun hn=>hs ⟨hn,i,hi,rfl⟩
      rw [← off _ hn]
      unfold aY
      rw [wC hd' h2.order hi,h2.kept i hi hn]
    · rw [G7 h2.order hin,G7 h3.order hin]
 refine anP h2.order h3.order fun i hi=>?_
 cases hn:nm (nameOf d' i) with
 |true=>
  rw [h2.fix i hi hn,h3.fix i hi rfl]
  exact Yn fun _ s _ x=>all s x
 |false=>
  obtain ⟨⟨j,hj,e,eq⟩,hsel,aoY⟩:=hcl i hi hn
  rw [h2.kept i hi hn,← e,wC hd h1.order hj,h1.fix j hj rfl,h3.fix i hi rfl,eq,hsel]
  exact Yn fun b s hs x=>off s (aoY b s hs) x
theorem aqL {q:List bD} {a:Nat} (h:(nodeAt q a).1≠0):nodeAt q a∈q:=by
 unfold nodeAt at h ⊢
 rw [List.getD_eq_getElem?_getD] at h ⊢
 by_cases ha:a<q.length
 · rw [List.getElem?_eq_getElem ha];exact List.getElem_mem ha
 · rw [List.getElem?_eq_none (by omega)] at h;exact (h rfl).elim
theorem aqb {q:List bD} {b:Bool} {s:Bytes} (h:s∈dZ q b):s∈qo q:=by
 unfold dZ at h
 rw [List.mem_filterMap] at h
 obtain ⟨i,hi,e⟩:=h
 cases hc:jh (nodeAt q i)&&((negated q).getD i (false,())).1==b with
 |false=>rw [hc] at e;cases e
 |true=>
  rw [hc] at e
  rw [Bool.and_eq_true] at hc
  have e:(nodeAt q i).2.2.2.1=s:=Option.some.inj e
  unfold qo
  rw [List.mem_map]
  refine ⟨nodeAt q i,List.mem_filter.2 ⟨aqL fun h0=>?_,hc.1⟩,e⟩
  have:=hc.1
  unfold jh at this
  rw [h0] at this
  cases this
end Sp
namespace Sp
open Go
def auf (as:List fZ):Prop:=as.Pairwise fun x y=>Op.bytesLess x.1 y.1=true
theorem ams {α:Type} {R:α→α→Prop} (ht:∀ a b c,R a b→R b c→R a c) (d:α):∀ (l:List α),(∀ i,i+1<l.length→R (l.getD i d) (l.getD (i+1) d))→l.Pairwise R
 |[],_=>List.Pairwise.nil
 |[x],_=>List.pairwise_singleton _ _
 |x::y::r,h=>by
  have ih:=ams ht d (y::r) fun i hi=>h (i+1) (by simpa using hi)
  have h0:R x y:=h 0 (by simp)
  refine List.pairwise_cons.2 ⟨fun z hz=>?_,ih⟩
  rcases List.mem_cons.1 hz with rfl|hz
  · exact h0
  · exact ht _ _ _ h0 ((List.pairwise_cons.1 ih).1 z hz)
theorem am9 {fs:List fV} {as:List fZ}:jZ fs as=true↔(∀ a∈as,ja fs a.1 a.2.1 a.2.2.1 a.2.2.2.1=true)∧auf as:=by
 have at_:∀ i (hi:i<as.length),bT as i=as[i]:=fun i hi=>by unfold bT;rw [List.getD_eq_getElem?_getD,List.getElem?_eq_getElem hi];rfl
 unfold jZ
 rw [show (jk as.length (jB fs as)=true)↔∀ i,i<as.length→jB fs as i=true from by
  unfold jk
  rw [List.all_eq_true]
  exact ⟨fun h i hi=>h i (List.mem_range.2 hi),fun h i hi=>h i (List.mem_range.1 hi)⟩]
 have one:∀ i,jB fs as i=true↔ja fs (bT as i).1 (bT as i).2.1 (bT as i).2.2.1 (bT as i).2.2.2.1=true∧(0<i→Op.bytesLess (bT as (i-1)).1 (bT as i).1=true):=fun i=>by
  unfold jB
  rw [Bool.and_eq_true]
  refine and_congr_right fun _=>?_
  by_cases h0:0<i
  · rw [decide_eq_true h0];simp [h0]
  · rw [decide_eq_false h0];simp [h0]
 constructor
 · intro h
   refine ⟨fun a ha=>?_,?_⟩
   · obtain ⟨i,hi,rfl⟩:=List.getElem_of_mem ha
     have:=((one i).1 (h i hi)).1
     rw [at_ i hi] at this;exact this
   · refine ams (R:=fun x y:fZ=>Op.bytesLess x.1 y.1=true) (fun a b c h1 h2=>FZ _ _ _ h1 h2) ([],0,0,[],()) as fun i hi=>?_
     exact ((one (i+1)).1 (h (i+1) hi)).2 (by omega)
 · rintro ⟨h1,h2⟩ i hi
   refine (one i).2 ⟨?_,fun h0=>?_⟩
   · rw [at_ i hi];exact h1 _ (List.getElem_mem hi)
   · rw [at_ i hi,at_ (i-1) (by omega)]
     exact List.pairwise_iff_getElem.1 h2 (i-1) i (by omega) hi (by omega)
theorem amu {α:Type} [BEq α] [LawfulBEq α]:∀ (a b:List α),a.Nodup→(∀ x∈a,x∈b)→a.length≤b.length
 |[],_,_,_=>Nat.zero_le _
 |x::r,b,hn,h=>by
  rw [List.nodup_cons] at hn
  have hx:=h x List.mem_cons_self
  have ih:=amu r (b.erase x) hn.2 fun y hy=>by
   have hne:y≠x:=fun e=>by subst e;exact hn.1 hy
   rw [List.mem_erase_of_ne hne]
   exact h y (List.mem_cons_of_mem _ hy)
  rw [List.length_erase_of_mem hx] at ih
  have:0<b.length:=List.length_pos_of_mem hx
  rw [List.length_cons];omega
theorem agp:∀ {fs:List fV} {s:Bytes},kindOf fs s≠0→s∈fs.map fun f=>f.1
 |[],_,h=>(h rfl).elim
 |f::r,s,h=>by
  rw [kindOf] at h
  by_cases e:f.1=s
  · rw [List.map_cons,e];exact List.mem_cons_self
  · rw [decide_eq_false e] at h
    rw [List.map_cons]
    exact List.mem_cons_of_mem _ (agp h)
theorem aqE {fs:List fV} {as:List fZ} (h:jZ fs as=true):as.length≤fs.length:=by
 obtain ⟨h1,h2⟩:=am9.1 h
 have:=amu (as.map fun a=>a.1) (fs.map fun f=>f.1) ?_ fun s hs=>?_
 · rw [List.length_map,List.length_map] at this;exact this
 · unfold List.Nodup
   rw [List.pairwise_map]
   exact h2.imp fun {a b} hab=>Ko hab
 · obtain ⟨a,ha,rfl⟩:=List.mem_map.1 hs
   have hm:=h1 a ha
   unfold ja at hm
   simp only [Bool.and_eq_true,decide_eq_true_eq,Bool.not_eq_true',decide_eq_false_iff_not] at hm
   exact agp (by rw [← hm.2];exact hm.1.2)
end Sp
namespace Sp
open Go
def belowD (name:Bytes) (x:aH):Bool:=Op.bytesLess x.1 name
def vJ (name:Bytes) (x:aH):Bool:=!(x.1==name)
def jo (d:List aH) (x:aH):List aH:=d.takeWhile (belowD x.1)++x::(d.dropWhile (belowD x.1)).filter (vJ x.1)
def bG (d:List aH) (x:aH):List aH×Bool:=bif bJ d&&bJ (jo d x) then (jo d x,true) else (d,false)
theorem arh {α:Type} (p:α→Bool):∀ l:List α,l.dropWhile p=l.drop (l.takeWhile p).length
 |[]=>rfl
 |x::r=>by
  rw [List.dropWhile_cons,List.takeWhile_cons]
  cases p x with
  |true=>simp only [if_true,List.length_cons,List.drop_succ_cons];exact arh p r
  |false=>rfl
theorem ari {α:Type} (p:α→Bool):∀ l:List α,l.takeWhile p=l.take (l.takeWhile p).length
 |[]=>rfl
 |x::r=>by
  rw [List.takeWhile_cons]
  cases p x with
  |true=>simp only [if_true,List.length_cons,List.take_succ_cons];exact congrArg (x::·) (ari p r)
  |false=>rfl
theorem Yt {α:Type} (p:α→Bool) (d:α):∀ (l:List α) (k:Nat),k≤l.length→(∀ i,i<k→p (l.getD i d)=true)→(k<l.length→p (l.getD k d)=false)→(l.takeWhile p).length=k
 |[],0,_,_,_=>rfl
 |[],_+1,h,_,_=>by simp at h
 |x::r,0,_,_,h=>by
  have:p x=false:=h (by simp)
  rw [List.takeWhile_cons,this];rfl
 |x::r,k+1,hk,h1,h2=>by
  have:p x=true:=h1 0 (by omega)
  rw [List.takeWhile_cons,this]
  simp only [if_true,List.length_cons]
  rw [Yt p d r k (by simpa using hk) (fun i hi=>h1 (i+1) (by omega)) fun h=>h2 (by simpa using h)]
theorem adx {α:Type} (p:α→Bool) (d:α):∀ (l:List α),(∀ i,i<(l.takeWhile p).length→p (l.getD i d)=true)∧((l.takeWhile p).length<l.length→p (l.getD (l.takeWhile p).length d)=false)
 |[]=>⟨fun i h=>by simp at h,fun h=>by simp at h⟩
 |x::r=>by
  obtain ⟨h1,h2⟩:=adx p d r
  rw [List.takeWhile_cons]
  cases hp:p x with
  |false=>exact ⟨fun i h=>by simp at h,fun _=>hp⟩
  |true=>
   simp only [if_true,List.length_cons]
   refine ⟨fun i hi=>?_,fun h=>h2 (by omega)⟩
   cases i with
   |zero=>exact hp
   |succ i=>exact h1 i (by omega)
theorem amv {α:Type} (p:α→Bool) (l:List α):(l.takeWhile p).length≤l.length:=by
 have:=congrArg List.length (List.takeWhile_append_dropWhile (p:=p) (l:=l))
 rw [List.length_append] at this;omega
def nC (d:List aH) (s:Bytes):Nat:=(d.takeWhile (belowD s)).length
theorem CV (d:List aH) (x:aH):jo d x=d.take (nC d x.1)++x::(d.drop (nC d x.1)).filter (vJ x.1):=by
 unfold jo nC
 rw [← ari,← arh]
theorem aoZ (d:List aH) (x:aH):(jo d x).length≤d.length+1:=by
 rw [CV,List.length_append,List.length_take,List.length_cons]
 have:=List.length_filter_le (vJ x.1) (d.drop (nC d x.1))
 rw [List.length_drop] at this
 have:=amv (belowD x.1) d
 unfold nC at*
 omega
theorem agq {d:List aH} {x y:aH} (h:y∈jo d x):y=x∨y∈d:=by
 rw [CV] at h
 rcases List.mem_append.1 h with h|h
 · exact .inr (List.mem_of_mem_take h)
 · rcases List.mem_cons.1 h with h|h
   · exact .inl h
   · exact .inr (List.mem_of_mem_drop (List.mem_filter.1 h).1)
theorem ao0 {d:List aH} {x y:aH} (h:y∈d):y.1=x.1∨y∈jo d x:=by
 by_cases e:y.1=x.1
 · exact .inl e
 · right
   rw [CV]
   rw [← List.take_append_drop (nC d x.1) d] at h
   rcases List.mem_append.1 h with h|h
   · exact List.mem_append.2 (.inl h)
   · refine List.mem_append.2 (.inr (List.mem_cons_of_mem _ (List.mem_filter.2 ⟨h,?_⟩)))
     unfold vJ
     rw [beq_eq_false_iff_ne.2 e];rfl
theorem amw (d:List aH) (x:aH):x∈jo d x:=by
 rw [CV];exact List.mem_append.2 (.inr List.mem_cons_self)
theorem af6 {d:List aH} {x:aH} (hd:aB d) (hl:d.length≤999) (hx:x.2.1.length≤1000):aB (jo d x):=by
 refine ⟨by have:=aoZ d x;omega,fun y hy=>?_⟩
 rcases agq hy with rfl|h
 · exact hx
 · exact hd.2 y h
theorem arM {d:List aH} {x:aH} (hd:bJ d=true) {n:Nat} (hn:n<d.length) (he:nameOf d n=x.1):d.set n x=jo d x:=by
 have hk:nC d x.1=n:=by
  refine Yt _ ([],[],()) d n (by omega) (fun i hi=>?_) fun _=>?_
  · have:=Qv hd n i hi hn
    rw [he] at this;exact this
  · show Op.bytesLess (nameOf d n) x.1=false
    rw [he];exact Ea _
 rw [CV,hk,List.set_eq_take_append_cons_drop,if_pos hn]
 congr 1
 have e:d.drop n=bI d n::d.drop (n+1):=by
  unfold bI
  rw [List.drop_eq_getElem_cons hn,List.getD_eq_getElem?_getD,List.getElem?_eq_getElem hn];rfl
 rw [e,List.filter_cons_of_neg (by unfold vJ;rw [show (bI d n).1=x.1 from he];simp)]
 rw [List.filter_eq_self.2]
 intro y hy
 obtain ⟨i,hi,rfl⟩:=List.getElem_of_mem hy
 rw [List.length_drop] at hi
 rw [List.getElem_drop]
 have h1:=Qv hd (n+1+i) n (by omega) (by omega)
 have e2:nameOf d (n+1+i)=(d[n+1+i]'(by omega)).1:=by
  unfold nameOf bI
  rw [List.getD_eq_getElem?_getD,List.getElem?_eq_getElem (by omega)];rfl
 rw [he,e2] at h1
 unfold vJ
 rw [beq_eq_false_iff_ne.2 (Ko h1).symm];rfl
theorem anL {d:List aH} {x:aH} (hd:bJ d=true) (hno:∀ y∈d,y.1≠x.1) {k:Nat} (hk:k≤d.length) (h1:∀ i,i<k→Op.bytesLess x.1 (nameOf d i)=false) (h2:k<d.length→Op.bytesLess x.1 (nameOf d k)=true):d.take k++([x]++d.drop k)=jo d x:=by
 have nm:∀ i,i<d.length→nameOf d i≠x.1:=fun i hi=>hno _ (by unfold bI;rw [List.getD_eq_getElem?_getD,List.getElem?_eq_getElem hi];exact List.getElem_mem hi)
 have hl:nC d x.1=k:=by
  refine Yt _ ([],[],()) d k hk (fun i hi=>?_) fun h=>?_
  · exact JK _ _ (h1 i hi) (nm i (by omega)).symm
  · exact agn (h2 h)
 rw [CV,hl,List.filter_eq_self.2]
 · rfl
 · intro y hy
   unfold vJ
   rw [beq_eq_false_iff_ne.2 (hno y (List.mem_of_mem_drop hy))];rfl
def vI (d:List aH) (x:aH) (n:Nat):List aH:=
 if n≤nC d x.1 then d.take n else d.take (nC d x.1)++x::((d.take n).drop (nC d x.1)).filter (vJ x.1)
theorem af7 {d:List aH} {x:aH} {n:Nat} (hn:n<d.length) (h:n<nC d x.1):vI d x (n+1)=vI d x n++[bI d n]∧belowD x.1 (bI d n)=true:=by
 unfold vI
 rw [if_pos (by omega),if_pos (by omega)]
 exact ⟨take_succ' d n ([],[],()) hn,(adx (belowD x.1) ([],[],()) d).1 n h⟩
theorem ajO {d:List aH} {x:aH} {n:Nat} (hn:n<d.length) (h:n=nC d x.1):vI d x (n+1)=vI d x n++x::(bif vJ x.1 (bI d n) then [bI d n] else [])∧belowD x.1 (bI d n)=false:=by
 unfold vI
 rw [if_neg (by omega),if_pos (by omega),← h]
 refine ⟨?_,?_⟩
 · congr 2
   rw [take_succ' d n ([],[],()) hn,List.drop_append_of_le_length (by rw [List.length_take];omega),List.drop_of_length_le (by rw [List.length_take];omega),List.nil_append]
   unfold bI
   cases hc:vJ x.1 (d.getD n ([],[],())) with
   |true=>rw [List.filter_cons_of_pos hc];rfl
   |false=>rw [List.filter_cons_of_neg (by rw [hc];exact Bool.false_ne_true)];rfl
 · have:=(adx (belowD x.1) ([],[],()) d).2
   unfold nC at h
   rw [← h] at this
   exact this hn
theorem am3 {d:List aH} {x:aH} {n:Nat} (hn:n<d.length) (h:nC d x.1<n):vI d x (n+1)=vI d x n++(bif vJ x.1 (bI d n) then [bI d n] else []):=by
 unfold vI
 rw [if_neg (by omega),if_neg (by omega),take_succ' d n ([],[],()) hn,List.drop_append_of_le_length (by rw [List.length_take];omega),List.filter_append,← List.cons_append,← List.append_assoc]
 congr 1
theorem aoP {d:List aH} {x:aH}:jo d x=if d.length≤nC d x.1 then vI d x d.length++[x] else vI d x d.length:=by
 have hle:=amv (belowD x.1) d
 rw [CV]
 unfold vI
 by_cases h:d.length≤nC d x.1
 · have e:nC d x.1=d.length:=by unfold nC at h ⊢;omega
   rw [if_pos h,if_pos h,e,List.take_length,List.drop_length];rfl
 · rw [if_neg h,if_neg h,List.take_length]
theorem aoO (d:List aH) (x:aH) (n:Nat):(vI d x n).length≤n+1:=by
 unfold vI
 by_cases h:n≤nC d x.1
 · rw [if_pos h,List.length_take];omega
 · rw [if_neg h,List.length_append,List.length_take,List.length_cons]
   have:=List.length_filter_le (vJ x.1) ((d.take n).drop (nC d x.1))
   rw [List.length_drop,List.length_take] at this
   omega
theorem aqI {fs:List aZ} {d:List aH} {x:aH} {nm:Bytes→Bool} {old R E:List dn} (hd:bJ d=true) (hd':bJ (jo d x)=true)
 (hnm:∀ s,nm s=true↔Reach (jo d x) (fun t=>t=x.1) s)
 (h1:fH fs d [] (fun _=>true) old) (h2:fH fs (jo d x) old nm R) (h3:fH fs (jo d x) [] (fun _=>true) E):R=E:=by
 have at_:∀ (l:List aH) i,i<l.length→bI l i∈l:=fun l i hi=>by
  unfold bI;rw [List.getD_eq_getElem?_getD,List.getElem?_eq_getElem hi];exact List.getElem_mem hi
 have of_:∀ (l:List aH) y,y∈l→∃ i,i<l.length∧bI l i=y:=fun l y hy=>by
  obtain ⟨i,hi,e⟩:=List.getElem_of_mem hy
  exact ⟨i,hi,by unfold bI;rw [List.getD_eq_getElem?_getD,List.getElem?_eq_getElem hi];exact e⟩
 refine incr hd hd' h1 h2 h3 (fun i hi hno=>⟨?_,fun _=>rfl,fun b s hs=>?_⟩) fun j hj=>?_
 · rcases agq (at_ _ i hi) with e|h
   · have:nm (nameOf (jo d x) i)=true:=(hnm _).2 (.base (by unfold nameOf;rw [e]))
     rw [this] at hno;cases hno
   · obtain ⟨j,hj,e⟩:=of_ d _ h
     exact ⟨j,hj,by unfold nameOf;rw [e],by unfold dK;rw [e]⟩
 · rw [Bool.eq_false_iff]
   intro h
   have:nm (nameOf (jo d x) i)=true:=(hnm _).2 (.step ((hnm s).1 h) hi (aqb hs))
   rw [this] at hno;cases hno
 · rcases ao0 (x:=x) (at_ d j hj) with e|h
   · obtain ⟨i,hi,e'⟩:=of_ _ _ (amw d x)
     exact ⟨i,hi,by unfold nameOf;rw [e',e]⟩
   · obtain ⟨i,hi,e'⟩:=of_ _ _ h
     exact ⟨i,hi,by unfold nameOf;rw [e']⟩
def became (c:ny) (s:dG) (d:List aH) (ok0:Bool) (c':ny) (df:List FX) (ok:Bool):Prop:=
 ok=ok0∧(ok=true→mJ c'=s∧fM c'=d∧gy c'=true∧df=He (CQ c) (CQ c'))∧(ok=false→c'=c∧df=[])
def zJ (c:ny):Prop:=gq c∧arf c∧(fM c).length≤10
end Sp
namespace Go.Fw
open Go
theorem al6 {α:Type} {l:List α} {lo:Nat} {news:List α} (h:lo+news.length≤l.length):(fG l lo news).length=l.length:=by
 unfold fG
 simp only [List.length_append,List.length_take,List.length_drop]
 omega
theorem ajI {α:Type} {l:List α} {lo k:Nat} {news:List α} (hk:k≤lo) (h:lo≤l.length):(fG l lo news).take k=l.take k:=by
 unfold fG
 rw [List.append_assoc,List.take_append_of_le_length (by rw [List.length_take];omega),List.take_take,Nat.min_eq_left hk]
theorem eqL {α β:Type} (e:α→α→Bool) (he:∀ x y,e x y=false↔x=y) (d:α) (a b:List α) [Decidable (a=b)] (t:β) (hlen:a.length≤maxLen) {K:Bool×Unit→Prop} (hK:K (decide (a=b),())):
 bif ((a.length:Int)) !=(b.length:Int) then K (false,()) else
 ∃ (I:(Int×Unit)×Unit→Prop),∃ (μ:(Int×Unit)×Unit→Nat),I (((0:Int),()),())∧∀ (y:(Int×Unit)×Unit),I y→
   bif decide (y.fst.fst<(a.length:Int)) then
    ((0:Int)≤y.fst.fst∧y.fst.fst<(a.length:Int))∧((0:Int)≤y.fst.fst∧y.fst.fst<(b.length:Int))∧
      (bif e (a.getD (Int.toNat y.fst.fst) d) (b.getD (Int.toNat y.fst.fst) d) then K (false,())
      else t=t∧I ((IntKind.i64.wrap (y.fst.fst+(1:Int)),()),())∧μ ((IntKind.i64.wrap (y.fst.fst+(1:Int)),()),())<μ y)
   else K (true,()):=by
 rw [maxLen_eq] at hlen
 refine af (fun h=>?_) fun h=>?_
 · have h:(a.length:Int)≠b.length:=by simpa using h
   rw [decide_eq_false fun e=>h (by rw [e])] at hK
   exact hK
 · have h:(a.length:Int)=b.length:=by simpa using h
   exact PV e he d a b t hlen (by omega) (fun e=>by rw [decide_eq_false e] at hK;exact hK) fun e=>by rw [decide_eq_true e] at hK;exact hK
theorem amb {α β:Type} (e:α→α→Bool) (he:∀ x y,e x y=false↔x=y) (d:α) (a b:List α) [Decidable (a=b)] (t:β) (hlen:a.length≤maxLen) {K:Bool×Unit→Prop} (hK:K (decide (a=b),())):
 bif ((a.length:Int)) !=(b.length:Int) then K (false,()) else
 ∃ (I:(Int×Unit)×Unit→Prop),∃ (μ:(Int×Unit)×Unit→Nat),I (((0:Int),()),())∧∀ (y:(Int×Unit)×Unit),I y→
   bif decide (y.fst.fst<(a.length:Int)) then
    ((0:Int)≤y.fst.fst∧y.fst.fst<(a.length:Int))∧((0:Int)≤y.fst.fst∧y.fst.fst<(b.length:Int))∧True∧
      (bif e (a.getD (Int.toNat y.fst.fst) d) (b.getD (Int.toNat y.fst.fst) d) then K (false,())
      else t=t∧I ((IntKind.i64.wrap (y.fst.fst+(1:Int)),()),())∧μ ((IntKind.i64.wrap (y.fst.fst+(1:Int)),()),())<μ y)
   else K (true,()):=by
 rw [maxLen_eq] at hlen
 refine af (fun h=>?_) fun h=>?_
 · have h:(a.length:Int)≠b.length:=by simpa using h
   rw [decide_eq_false fun e=>h (by rw [e])] at hK
   exact hK
 · have h:(a.length:Int)=b.length:=by simpa using h
   exact acT e he d a b t hlen (by omega) (fun e=>by rw [decide_eq_false e] at hK;exact hK) fun e=>by rw [decide_eq_true e] at hK;exact hK
theorem amf {α β:Type} (p:α→Bool) (d:α) (a:List α) (t:β) (hlen:a.length≤maxLen) {K:Int×Unit→Prop} (hK:K (Sp.findAt p a,())):
 ∃ (I:(Int×Unit)×Unit→Prop),∃ (μ:(Int×Unit)×Unit→Nat),I (((0:Int),()),())∧∀ (y:(Int×Unit)×Unit),I y→
   bif decide (y.fst.fst<(a.length:Int)) then
    ((0:Int)≤y.fst.fst∧y.fst.fst<(a.length:Int))∧True∧
      (bif p (a.getD (Int.toNat y.fst.fst) d) then K (y.fst.fst,())
      else t=t∧I ((IntKind.i64.wrap (y.fst.fst+(1:Int)),()),())∧μ ((IntKind.i64.wrap (y.fst.fst+(1:Int)),()),())<μ y)
   else K ((-1:Int),()):=by
 rw [maxLen_eq] at hlen
 refine iV a.length hlen (fun n=>∀ i,i<n→p (a.getD i d)=false) (fun i hi=>by omega) (fun I μ n hn hJ next=>?_) fun I μ hJ=>?_
 · dsimp only
   refine dB (by omega) ⟨⟨by omega,by omega⟩,trivial,af (fun h=>?_) fun h=>⟨rfl,next fun i hi=>?_⟩⟩
   · rw [Sp.ajS hn hJ h] at hK;exact hK
   · rcases Nat.lt_or_ge i n with h'|h'
     · exact hJ i h'
     · have:i=n:=by omega
       rw [this];exact h
 · dsimp only
   refine dD (by omega) ?_
   rw [Sp.abM hJ] at hK;exact hK
theorem apT {α β:Type} (p:α→Bool) (d:α) (a:List α) (t:β) (hlen:a.length≤maxLen) {K:Int×Unit→Prop} (hK:K (Sp.findAt p a,())):
 ∃ (I:(Int×Unit)×Unit→Prop),∃ (μ:(Int×Unit)×Unit→Nat),I (((0:Int),()),())∧∀ (y:(Int×Unit)×Unit),I y→
   bif decide (y.fst.fst<(a.length:Int)) then
    ((0:Int)≤y.fst.fst∧y.fst.fst<(a.length:Int))∧
      (bif p (a.getD (Int.toNat y.fst.fst) d) then K (y.fst.fst,())
      else t=t∧I ((IntKind.i64.wrap (y.fst.fst+(1:Int)),()),())∧μ ((IntKind.i64.wrap (y.fst.fst+(1:Int)),()),())<μ y)
   else K ((-1:Int),()):=by
 obtain ⟨I,μ,h0,h1⟩:=amf p d a t hlen hK
 refine ⟨I,μ,h0,fun y hy=>?_⟩
 have:=h1 y hy
 revert this
 cases decide (y.fst.fst<(a.length:Int)) with
 |true=>exact fun h=>⟨h.1,h.2.2⟩
 |false=>exact id
theorem arH {α β:Type} (p:α→Bool) (d:α) (s:List α) (t:β) (hlen:s.length≤4611686018427387903) {K:(List α×Unit)×Unit→Prop} (hK:K ((s.filter fun x=>!p x,()),())):
 bif Sp.findAt p s==(-1:Int) then K ((s,()),()) else
 ∃ (I:(Int×Int×Unit)×List α×Unit→Prop),∃ (μ:(Int×Int×Unit)×List α×Unit→Nat),
   I ((Sp.findAt p s,IntKind.i64.wrap (Sp.findAt p s+(1:Int)),()),s,())∧∀ (y:(Int×Int×Unit)×List α×Unit),I y→
     bif decide (y.fst.snd.fst<(↑(List.length y.snd.fst):Int)) then
      ((0:Int)≤y.fst.snd.fst∧y.fst.snd.fst<(↑(List.length y.snd.fst):Int))∧Int.toNat y.fst.snd.fst<List.length y.snd.fst∧True∧
        (bif !p (List.getD y.snd.fst (Int.toNat y.fst.snd.fst) d) then
          ((0:Int)≤y.fst.fst∧y.fst.fst<(↑(List.length y.snd.fst):Int))∧Int.toNat y.fst.fst<List.length y.snd.fst∧t=t∧
            I ((IntKind.i64.wrap (y.fst.fst+(1:Int)),IntKind.i64.wrap (y.fst.snd.fst+(1:Int)),()),List.set y.snd.fst (Int.toNat y.fst.fst) (List.getD y.snd.fst (Int.toNat y.fst.snd.fst) d),())∧
            μ ((IntKind.i64.wrap (y.fst.fst+(1:Int)),IntKind.i64.wrap (y.fst.snd.fst+(1:Int)),()),List.set y.snd.fst (Int.toNat y.fst.fst) (List.getD y.snd.fst (Int.toNat y.fst.snd.fst) d),())<μ y
        else t=t∧I ((y.fst.fst,IntKind.i64.wrap (y.fst.snd.fst+(1:Int)),()),y.snd.fst,())∧μ ((y.fst.fst,IntKind.i64.wrap (y.fst.snd.fst+(1:Int)),()),y.snd.fst,())<μ y)
     else
      (0:Nat)<List.length y.snd.fst∧((0:Int)≤y.fst.fst∧y.fst.fst≤(↑(List.length y.snd.fst):Int))∧
        (0:Nat)+Int.toNat y.fst.fst+(List.length y.snd.fst-Int.toNat y.fst.fst)≤List.length y.snd.fst∧
          ((0:Nat)<(fG y.snd.fst ((0:Nat)+Int.toNat y.fst.fst) (List.replicate (List.length y.snd.fst-Int.toNat y.fst.fst) d)).length∧
            List.length y.snd.fst≤(fG y.snd.fst ((0:Nat)+Int.toNat y.fst.fst) (List.replicate (List.length y.snd.fst-Int.toNat y.fst.fst) d)).length)∧
            ((0:Int)≤y.fst.fst∧y.fst.fst≤(↑(List.take (List.length y.snd.fst) (fG y.snd.fst ((0:Nat)+Int.toNat y.fst.fst) (List.replicate (List.length y.snd.fst-Int.toNat y.fst.fst) d))).length:Int))∧
              K ((List.take (Int.toNat y.fst.fst) (List.take (List.length y.snd.fst) (fG y.snd.fst ((0:Nat)+Int.toNat y.fst.fst) (List.replicate (List.length y.snd.fst-Int.toNat y.fst.fst) d))),()),()):=by
 rcases Sp.LX p d s with ⟨e,hno⟩|⟨n,hn,e,he,hne⟩
 · rw [e]
   have:s.filter (fun x=>!p x)=s:=List.filter_eq_self.2 fun x hx=>by
    obtain ⟨i,hi,rfl⟩:=List.getElem_of_mem hx
    have:=hno i hi
    rw [List.getD_eq_getElem?_getD,List.getElem?_eq_getElem hi] at this
    exact congrArg Bool.not this
   rw [this] at hK
   exact hK
 · rw [e]
   have e1:(((n:Nat):Int)==-1)=false:=by rw [beq_eq_false_iff_ne];omega
   rw [e1]
   have w1:∀ k:Nat,k≤4611686018427387903→IntKind.i64.wrap ((k:Int)+1)=((k+1:Nat):Int):=fun k hk=>fC _ (by omega)
   rw [w1 n (by omega)]
   refine ⟨fun y=>∃ (i j:Nat) (l:List α),y=(((i:Int),(j:Int),()),l,())∧i<j∧j≤s.length∧l.length=s.length∧l.take i=(s.take j).filter (fun x=>!p x)∧∀ t,j≤t→l.getD t d=s.getD t d,
    fun y=>((s.length:Int)-y.1.2.1).toNat,⟨n,n+1,s,rfl,by omega,by omega,rfl,?_,fun _ _=>rfl⟩,?_⟩
   · rw [Sp.take_succ' s n d hn,List.filter_append,List.filter_cons]
     have h1:(!p (s.getD n d))=false:=congrArg Bool.not he
     rw [h1]
     have h2:(s.take n).filter (fun x=>!p x)=s.take n:=List.filter_eq_self.2 fun x hx=>by
      obtain ⟨i,hi,rfl⟩:=List.getElem_of_mem hx
      have hi':i<n:=by rw [List.length_take] at hi;omega
      have:=hne i hi'
      rw [List.getD_eq_getElem?_getD,List.getElem?_eq_getElem (by omega)] at this
      rw [List.getElem_take]
      exact congrArg Bool.not this
     rw [h2];simp
   · rintro y ⟨i,j,l,rfl,hij,hj,hl,ht,hs⟩
     dsimp only
     refine af (fun h=>?_) fun h=>?_
     · have h:j<s.length:=by have h:=of_decide_eq_true h;omega
       have hsj:=hs j (Nat.le_refl _)
       rw [Int.toNat_natCast,Int.toNat_natCast,hsj,w1 i (by omega),w1 j (by omega)]
       refine ⟨⟨by omega,by omega⟩,by omega,trivial,af (fun h2=>⟨⟨by omega,by omega⟩,by omega,rfl,⟨i+1,j+1,_,rfl,by omega,by omega,by rw [List.length_set];exact hl,?_,fun t ht=>?_⟩,by omega⟩) fun h2=>⟨rfl,⟨i,j+1,l,rfl,by omega,by omega,hl,?_,fun t ht=>hs t (by omega)⟩,by omega⟩⟩
       · rw [Sp.take_succ' _ i d (by rw [List.length_set];omega),Sp.take_succ' s j d h,List.filter_append,List.filter_cons,List.take_set_of_le (Nat.le_refl _),ht]
         have h3:(!p (s.getD j d))=true:=h2
         rw [h3,List.getD_eq_getElem?_getD,List.getElem?_set,if_pos rfl,if_pos (by omega)]
         rfl
       · rw [List.getD_eq_getElem?_getD,List.getElem?_set,if_neg (by omega),← List.getD_eq_getElem?_getD]
         exact hs t (by omega)
       · rw [Sp.take_succ' s j d h,List.filter_append,List.filter_cons,ht]
         have h3:(!p (s.getD j d))=false:=h2
         rw [h3];simp
     · have h:j=s.length:=by have h:=of_decide_eq_false h;omega
       rw [Int.toNat_natCast,Nat.zero_add]
       have l1:(fG l i (List.replicate (l.length-i) d)).length=l.length:=al6 (by rw [List.length_replicate];omega)
       refine ⟨by omega,⟨by omega,by omega⟩,by omega,⟨by rw [l1];omega,by rw [l1];omega⟩,⟨by omega,by rw [List.length_take,l1];omega⟩,?_⟩
       rw [List.take_take,Nat.min_eq_left (by omega),ajI (Nat.le_refl _) (by omega),ht,h,List.take_length]
       exact hK
end Go.Fw
namespace Go.Fw
open Go
theorem asl {α β:Type} (p:α→Bool) (d:α) (a:List α) (t:β) (hlen:a.length≤maxLen) {K:Bool×Unit→Prop} (hK:K (a.any p,())):
 ∃ (I:(Int×Unit)×Unit→Prop),∃ (μ:(Int×Unit)×Unit→Nat),I (((0:Int),()),())∧∀ (y:(Int×Unit)×Unit),I y→
   bif decide (y.fst.fst<(a.length:Int)) then
    ((0:Int)≤y.fst.fst∧y.fst.fst<(a.length:Int))∧
      (bif p (a.getD (Int.toNat y.fst.fst) d) then K (true,())
      else t=t∧I ((IntKind.i64.wrap (y.fst.fst+(1:Int)),()),())∧μ ((IntKind.i64.wrap (y.fst.fst+(1:Int)),()),())<μ y)
   else K (false,()):=by
 rw [maxLen_eq] at hlen
 refine iV a.length hlen (fun n=>∀ i,i<n→p (a.getD i d)=false) (fun i hi=>by omega) (fun I μ n hn hJ next=>?_) fun I μ hJ=>?_
 · dsimp only
   refine dB (by omega) ⟨⟨by omega,by omega⟩,af (fun h=>?_) fun h=>⟨rfl,next fun i hi=>?_⟩⟩
   · have:a.any p=true:=List.any_eq_true.2 ⟨a.getD n d,by rw [List.getD_eq_getElem?_getD,List.getElem?_eq_getElem hn];exact List.getElem_mem hn,h⟩
     rw [this] at hK;exact hK
   · rcases Nat.lt_or_ge i n with h'|h'
     · exact hJ i h'
     · have:i=n:=by omega
       rw [this];exact h
 · dsimp only
   refine dD (by omega) ?_
   have:a.any p=false:=by
    rw [List.any_eq_false]
    intro x hx
    obtain ⟨i,hi,rfl⟩:=List.getElem_of_mem hx
    have:=hJ i hi
    rw [List.getD_eq_getElem?_getD,List.getElem?_eq_getElem hi] at this
    simpa using this
   rw [this] at hK;exact hK
theorem amc {α:Type} (p:α→Bool) (s:List α):decide (Sp.findAt p s≥0)=s.any p:=by
 cases hs:s with
 |nil=>rfl
 |cons d r=>
  rw [← hs]
  rcases Sp.LX p d s with ⟨e,h⟩|⟨n,hn,e,h1,h2⟩
  · rw [e,decide_eq_false (by omega)]
    symm
    rw [List.any_eq_false]
    intro x hx
    obtain ⟨i,hi,rfl⟩:=List.getElem_of_mem hx
    have:=h i hi
    rw [List.getD_eq_getElem?_getD,List.getElem?_eq_getElem hi] at this
    simpa using this
  · rw [e,decide_eq_true (by omega)]
    symm
    exact List.any_eq_true.2 ⟨s.getD n d,by rw [List.getD_eq_getElem?_getD,List.getElem?_eq_getElem hn];exact List.getElem_mem hn,h1⟩
theorem uI {α:Type} (p:α→Bool) (d:α) (l:List α) {n:Nat} (h:n<l.length):(l.take (n+1)).filter p=(l.take n).filter p++(bif p (l.getD n d) then [l.getD n d] else []):=by
 rw [Sp.take_succ' l n d h,List.filter_append,List.filter_cons]
 cases p (l.getD n d)<;>rfl
theorem ac6 {α β δ:Type} (p:α→Bool) (g:α→β) (d:α) (a:List α) (t:δ) {A:Int→Prop} (hA:∀ n:Nat,n<a.length→A n) (hlen:a.length≤4000000) {K:List β×Unit→Prop} (hK:K ((a.filter p).map g,())):
 ∃ (I:(Unit×Int×Unit)×List β×Unit→Prop),∃ (μ:(Unit×Int×Unit)×List β×Unit→Nat),I (((),(0:Int),()),[],())∧∀ (y:(Unit×Int×Unit)×List β×Unit),I y→
   bif decide (y.1.2.1<(a.length:Int)) then
    ((0:Int)≤y.1.2.1∧y.1.2.1<(a.length:Int))∧A y.1.2.1∧
      (bif p (a.getD (Int.toNat y.1.2.1) d) then List.length y.2.1+1≤big∧t=t∧I (((),IntKind.i64.wrap (y.1.2.1+(1:Int)),()),y.2.1++[g (a.getD (Int.toNat y.1.2.1) d)],())∧μ (((),IntKind.i64.wrap (y.1.2.1+(1:Int)),()),y.2.1++[g (a.getD (Int.toNat y.1.2.1) d)],())<μ y
      else t=t∧I (((),IntKind.i64.wrap (y.1.2.1+(1:Int)),()),y.2)∧μ (((),IntKind.i64.wrap (y.1.2.1+(1:Int)),()),y.2)<μ y)
   else K y.2:=by
 refine dR (fun i (x:List β)=>(((),i,()),x,())) (fun y=>y.1.2.1) (fun _ _=>rfl) a.length (by omega) (fun n l=>l=((a.take n).filter p).map g) (by simp) (fun I μ n l hn hJ next=>?_) fun I μ l hJ=>?_
 · subst hJ
   have hl:(((a.take n).filter p).map g).length≤n:=by
    have:=List.length_filter_le p (a.take n)
    rw [List.length_map];rw [List.length_take] at this;omega
   have step:=uI p d a hn
   dsimp only
   refine dB (by omega) ⟨⟨by omega,by omega⟩,hA n hn,af (fun h=>⟨by rw [bV];omega,rfl,next _ ?_⟩) fun h=>⟨rfl,next _ ?_⟩⟩
   · have h:p (a.getD n d)=true:=h
     rw [step,h,List.map_append];rfl
   · have h:p (a.getD n d)=false:=h
     rw [step,h,List.map_append];simp
 · subst hJ
   dsimp only
   refine dD (by omega) ?_
   rw [List.take_length];exact hK
theorem aua {α β δ:Type} (g:α→β) (d:α) (a:List α) (t:δ) (hlen:a.length≤4000000) {K:List β×Unit→Prop} (hK:K (a.map g,())):
 ∃ (I:(Unit×Int×Unit)×List β×Unit→Prop),∃ (μ:(Unit×Int×Unit)×List β×Unit→Nat),I (((),(0:Int),()),[],())∧∀ (y:(Unit×Int×Unit)×List β×Unit),I y→
   bif decide (y.1.2.1<(a.length:Int)) then
    ((0:Int)≤y.1.2.1∧y.1.2.1<(a.length:Int))∧
      List.length y.2.1+1≤big∧t=t∧I (((),IntKind.i64.wrap (y.1.2.1+(1:Int)),()),y.2.1++[g (a.getD (Int.toNat y.1.2.1) d)],())∧μ (((),IntKind.i64.wrap (y.1.2.1+(1:Int)),()),y.2.1++[g (a.getD (Int.toNat y.1.2.1) d)],())<μ y
   else K y.2:=by
 obtain ⟨I,μ,h0,h1⟩:=ac6 (fun _=>true) g d a t (A:=fun _=>True) (fun _ _=>trivial) hlen (K:=K) (by rw [List.filter_eq_self.2 fun _ _=>rfl];exact hK)
 refine ⟨I,μ,h0,fun y hy=>?_⟩
 have:=h1 y hy
 revert this
 cases decide (y.1.2.1<(a.length:Int)) with
 |true=>exact fun h=>⟨h.1,h.2.2⟩
 |false=>exact id
end Go.Fw
