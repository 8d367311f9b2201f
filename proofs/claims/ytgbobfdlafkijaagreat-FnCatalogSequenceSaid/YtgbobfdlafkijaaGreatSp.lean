import Derived.Test.YtgbobfdlafkijaaGreatFwA
import Derived.Lib.ItoaNum
import Derived.Lib.ItoaLen
import Derived.Lib.Join
import Derived.Test.YtgbobfdlafkijaaGreatFwC
namespace Sp
open Go
abbrev Bytes:=List UInt8
abbrev LI:=List (Int×Unit)
abbrev LS:=List (Bytes×Unit)
theorem take_succ' {α:Type} (a:List α) (n:Nat) (d:α) (h:n<a.length):a.take (n+1)=a.take n++[a.getD n d]:=by
 rw [List.take_succ_eq_append_getElem h,List.getD_eq_getElem?_getD,List.getElem?_eq_getElem h];rfl
def avV (l:LI):Prop:=∀ x∈l,-9223372036854775808≤x.1∧x.1≤9223372036854775807
theorem avV.take {a:LI} (h:avV a) (n:Nat):avV (a.take n):=fun x hx=>h x (List.mem_of_mem_take hx)
theorem avV.get {a:LI} (h:avV a) {n:Nat} (hn:n<a.length) (d:Int×Unit):(Lib.itoa (a.getD n d).1).length≤21:=by
 have:a.getD n d∈a:=by rw [List.getD_eq_getElem?_getD,List.getElem?_eq_getElem hn,Option.getD_some];exact List.getElem_mem hn
 exact Lib.itoa_length_le _ (h _ this).1 (h _ this).2
end Sp
namespace Sp
open Go
set_option synthInstance.maxSize 100000
set_option synthInstance.maxHeartbeats 1000000
abbrev aBt:=Int×Int×Bytes×Unit
abbrev gZ:=Bytes×Int×Int×Bytes×Unit
abbrev bY:=Int×Int×Int×Bytes×Int×Int×Bytes×Unit
abbrev aT:=Int×Int×Bool×Int×List gZ×Unit
abbrev aY:=Bytes×List bY×Unit
abbrev ax9:=Int×Int×Int×Bool×Int×List gZ×Int×Bytes×List bY×Unit
instance:DecidableEq aBt:=inferInstance
instance:DecidableEq gZ:=inferInstance
instance:DecidableEq bY:=inferInstance
instance:DecidableEq aT:=inferInstance
instance:DecidableEq aY:=inferInstance
instance:DecidableEq (Int×aY):=inferInstance
instance:DecidableEq (List gZ×Int×aY):=inferInstance
instance:DecidableEq (Bool×Int×List gZ×Int×aY):=inferInstance
instance aIR:DecidableEq ax9:=(inferInstance:DecidableEq (Int×Int×Int×Bool×Int×List gZ×Int×aY))
instance:DecidableEq (List ax9):=inferInstance
instance:DecidableEq (List ax9×Bytes×Int×Unit):=inferInstance
def lower (s:Bytes):Bool:=s.all fun c=>decide (97≤c.toNat)&&decide (c.toNat≤122)
def jB (s:Bytes):Bool:=lower s&&decide (1≤(s.length:Int))&&decide ((s.length:Int)≤6)
def aHb (n:Int):Bool:=decide (0≤n)&&decide (n≤1000000000)
def idxFrom:Int→LI→Int
 |_,[]=>-1
 |k,x::r=>if aHb x.1 then idxFrom (k+1) r else k
def idxOf (l:LI):Int:=idxFrom 0 l
end Sp
namespace Sp
open Go
abbrev iZ:=Bytes×Int×Unit
abbrev eG:=List iZ×List aT×Int×Unit
instance:DecidableEq iZ:=inferInstance
instance:DecidableEq (List iZ):=inferInstance
instance:DecidableEq (List aT):=inferInstance
instance:DecidableEq (List aT×Int×Unit):=inferInstance
instance aJg:DecidableEq eG:=(inferInstance:DecidableEq (List iZ×List aT×Int×Unit))
def usual:List iZ:=[([97],1,()),([98],1,()),([110],2,()),([116],2,())]
def bH (f:aT):Prop:=f.2.2.2.2.1.length≤1000
def bC (s:eG):Prop:=s.1.length≤1000∧s.2.1.length≤1000∧∀ f∈s.2.1,bH f
def l9 (n:Nat) (f:Nat→Bool):Bool:=(List.range n).all f
def lD (s:Bytes):Bool:=lower s&&decide (1≤(s.length:Int))&&decide ((s.length:Int)≤1)
def kY (k n:Int) (s:Bytes):Bool:=
 bif decide (k=0) then decide (n=0)&&decide (s=[])
 else bif decide (k=1) then decide (0≤n)&&decide (n≤999)&&decide (s=[])
 else bif decide (k=2) then jB s&&decide (n=0)
 else false
def kindOf:List iZ→Bytes→Int
 |[],_=>0
 |f::r,s=>bif decide (f.1=s) then f.2.1 else kindOf r s
def fieldAt (fs:List iZ) (i:Nat):iZ:=fs.getD i ([],0,())
def pW (fs:List iZ) (i:Nat):Bool:=
 lD (fieldAt fs i).1&&(decide (1≤(fieldAt fs i).2.1)&&decide ((fieldAt fs i).2.1≤2))&&!(decide (0<i)&&!Op.bytesLess (fieldAt fs (i-1)).1 (fieldAt fs i).1)
def ig (fs:List iZ):Bool:=l9 fs.length (pW fs)&&decide ((fs.length:Int)≤5)
def jh (fs:List iZ) (name:Bytes) (k n:Int) (s:Bytes):Bool:=kY k n s&&!decide (k=0)&&decide (k=kindOf fs name)
def dB (as:List gZ) (i:Nat):gZ:=as.getD i ([],0,0,[],())
def nI (fs:List iZ) (as:List gZ) (i:Nat):Bool:=
 jh fs (dB as i).1 (dB as i).2.1 (dB as i).2.2.1 (dB as i).2.2.2.1&&!(decide (0<i)&&!Op.bytesLess (dB as (i-1)).1 (dB as i).1)
def mW (fs:List iZ) (as:List gZ):Bool:=l9 as.length (nI fs as)
def dD (fs:List iZ) (f:aT):Bool:=
 mW fs f.2.2.2.2.1&&ig fs&&(decide (1≤f.1)&&decide (f.1≤60))&&(decide (0≤f.2.1)&&decide (f.2.1≤2))&&(decide (0≤f.2.2.2.1)&&decide (f.2.2.2.1≤60))
def fileAt (fs:List aT) (i:Nat):aT:=fs.getD i (0,0,false,0,[],())
def oP (s:eG) (i:Nat):Bool:=
 dD s.1 (fileAt s.2.1 i)&&decide ((fileAt s.2.1 i).1<s.2.2.1)&&!(decide (0<i)&&!decide ((fileAt s.2.1 (i-1)).1<(fileAt s.2.1 i).1))
def aH (s:eG):Bool:=
 l9 s.2.1.length (oP s)&&ig s.1&&decide ((s.2.1.length:Int)≤12)&&(decide (1≤s.2.2.1)&&decide (s.2.2.1≤61))
def KA:Int→List aT→Int→Int
 |_,[],_=>-1
 |k,f::r,id=>bif decide (f.1=id) then k else KA (k+1) r id
def place (fs:List aT) (id:Int):Int:=KA 0 fs id
def amm:aT:=(0,0,false,0,[],())
def fC (s:eG) (id:Int):aT×Bool:=
 bif decide (place s.2.1 id<0) then (amm,false) else (fileAt s.2.1 (place s.2.1 id).toNat,true)
def lX (name:Bytes) (b:gZ):Bool:=!(b.1==name)
def lF (name:Bytes) (b:gZ):Bool:=Op.bytesLess b.1 name||b.1==name
def an1 (as:List gZ) (a:gZ):List gZ:=as.takeWhile (lF a.1)++a::as.dropWhile (lF a.1)
def jQ (as:List gZ) (name:Bytes) (k n:Int) (s:Bytes):List gZ:=
 bif decide (k=0) then as.filter (lX name) else an1 (as.filter (lX name)) (name,k,n,s,())
def fD (s:eG) (f:aT):eG×Int×Bool:=
 let g:aT:=(s.2.2.1,f.2)
 bif aH s&&decide ((s.2.1.length:Int)<12)&&dD s.1 g then ((s.1,s.2.1++[g],s.2.2.1+1,()),s.2.2.1,true) else (s,0,false)
def aW (s:eG) (f:aT):eG×Bool:=
 bif aH s&&!decide (place s.2.1 f.1<0)&&dD s.1 f then ((s.1,s.2.1.set (place s.2.1 f.1).toNat f,s.2.2.1,()),true) else (s,false)
def gJ (s:eG) (id:Int):eG×Bool:=
 bif aH s&&!decide (place s.2.1 id<0) then ((s.1,s.2.1.eraseIdx (place s.2.1 id).toNat,s.2.2.1,()),true) else (s,false)
def O0 {α:Type} (p:α→Bool):Int→List α→Int
 |_,[]=>-1
 |k,f::r=>bif p f then k else O0 p (k+1) r
def findAt {α:Type} (p:α→Bool) (l:List α):Int:=O0 p 0 l
def fieldPlace (l:List iZ) (name:Bytes):Int:=findAt (fun f=>f.1==name) l
end Sp
namespace Sp
theorem aBC:∀ (n m:Nat) (L:Nat→Nat),(∀ k,k<m→∃ j,j<n∧L j=k)→m≤n
 |0,m,L,h=>by
  rcases Nat.eq_zero_or_pos m with h0|h0
  · omega
  · obtain ⟨j,hj,_⟩:=h 0 h0;omega
 |n+1,m,L,h=>by
  by_cases hv:L n<m
  · have:=aBC n (m-1) (fun j=>if L n<L j then L j-1 else L j) fun k hk=>by
     by_cases h1:k<L n
     · obtain ⟨j,hj,e⟩:=h k (by omega)
       have:j≠n:=fun e2=>by subst e2;omega
       exact ⟨j,by omega,by show (if _ then _ else _)=_;rw [if_neg (by omega)];exact e⟩
     · obtain ⟨j,hj,e⟩:=h (k+1) (by omega)
       have:j≠n:=fun e2=>by subst e2;omega
       exact ⟨j,by omega,by show (if _ then _ else _)=_;rw [if_pos (by omega)];omega⟩
    omega
  · have:=aBC n m L fun k hk=>by
     obtain ⟨j,hj,e⟩:=h k hk
     have:j≠n:=fun e2=>by subst e2;omega
     exact ⟨j,by omega,e⟩
    omega
abbrev ahC:=List (Nat×Nat×Nat)
def kM (E:ahC) (L:Nat→Nat):Prop:=∀ e∈E,L e.2.1+e.2.2≤L e.1
def aya (E:ahC) (n:Nat):Prop:=∀ e∈E,e.1<n∧e.2.1<n∧e.2.2≤1
def sumTo (n:Nat) (L:Nat→Nat):Nat:=match n with|0=>0|n+1=>sumTo n L+L n
theorem sumTo_le {L M:Nat→Nat}:∀ n,(∀ i,i<n→L i≤M i)→sumTo n L≤sumTo n M
 |0,_=>Nat.le_refl _
 |n+1,h=>Nat.add_le_add (sumTo_le n fun i hi=>h i (by omega)) (h n (by omega))
theorem aBD {L M:Nat→Nat}:∀ n,(∀ i,i<n→L i≤M i)→(∃ i,i<n∧L i<M i)→sumTo n L<sumTo n M
 |0,_,⟨i,hi,_⟩=>by omega
 |n+1,h,⟨i,hi,hl⟩=>by
  have h1:=sumTo_le n fun j hj=>h j (Nat.lt_succ_of_lt hj)
  show sumTo n L+L n<sumTo n M+M n
  by_cases e:i=n
  · subst e;omega
  · have:=aBD n (fun j hj=>h j (Nat.lt_succ_of_lt hj)) ⟨i,by omega,hl⟩
    have:=h n (by omega)
    omega
theorem afH {E:ahC} {n:Nat} (hE:aya E n):∀ (s:Nat) (L:Nat→Nat),sumTo n L≤s→kM E L→∃ M,kM E M∧∀ i,i<n→M i<n
 |s,L,hs,hL=>by
  by_cases hall:∀ i,i<n→L i<n
  · exact ⟨L,hL,hall⟩
  · obtain ⟨i,hi⟩:=Classical.not_forall.1 hall
    have hi1:i<n∧n≤L i:=by
     by_cases h1:i<n
     · exact ⟨h1,Nat.le_of_not_lt fun h2=>hi fun _=>h2⟩
     · exact (hi fun h2=>(h1 h2).elim).elim
    have aIM:∃ k,k<n∧∀ j,j<n→L j≠k:=by
     refine Classical.byContradiction fun hno=>?_
     have:=aBC n (n+1) (fun j=>min (L j) n) fun k hk=>by
      by_cases h1:k<n
      · refine Classical.byContradiction fun h2=>hno ⟨k,h1,fun j hj e=>h2 ⟨j,hj,?_⟩⟩
        show min (L j) n=k
        omega
      · exact ⟨i,hi1.1,by show min (L i) n=k;omega⟩
     omega
    obtain ⟨k,hk,hno⟩:=aIM
    have hlt:sumTo n (fun j=>if k<L j then L j-1 else L j)<sumTo n L:=by
     refine aBD n (fun j _=>?_) ⟨i,hi1.1,?_⟩
     · show (if _ then _ else _)≤_
       split
       · exact Nat.sub_le _ _
       · exact Nat.le_refl _
     · show (if _ then _ else _)<_;rw [if_pos (by omega)];omega
    match s,hs with
    |0,hs=>omega
    |s+1,hs=>
     refine afH hE s (fun j=>if k<L j then L j-1 else L j) (by omega) fun e he=>?_
     have h1:=hL e he
     obtain ⟨h2,h3,h4⟩:=hE e he
     have n1:=hno e.1 h2
     have n2:=hno e.2.1 h3
     show (if k<L e.2.1 then L e.2.1-1 else L e.2.1)+e.2.2≤(if k<L e.1 then L e.1-1 else L e.1)
     split<;>split<;>omega
theorem abV {E:ahC} {n:Nat} (hE:aya E n) (h:∃ L,kM E L):∃ M,kM E M∧∀ i,i<n→M i<n:=by
 obtain ⟨L,hL⟩:=h
 exact afH hE (sumTo n L) L (Nat.le_refl _) hL
structure Raises (E:ahC) (n:Nat) (R:(Nat→Nat)→Nat→Nat):Prop where
 up:∀ L i,L i≤R L i
 fix:∀ L,(∀ i,i<n→R L i=L i)→kM E L
 below:∀ L M,kM E M→(∀ i,i<n→L i≤M i)→∀ i,i<n→R L i≤M i
 same:∀ L L',(∀ i,i<n→L i=L' i)→∀ i,i<n→R L i=R L' i
end Sp
namespace Sp
open Go
abbrev aHO:=List iZ×List aT×Int×List aY×Unit
abbrev aHc:=Int×List iZ×List aT×Int×List aY×Int×Unit
instance:DecidableEq (List bY):=inferInstance
instance:DecidableEq aY:=inferInstance
instance:DecidableEq (List aY):=inferInstance
instance:DecidableEq (List aY×Unit):=inferInstance
instance:DecidableEq (Int×List aY×Unit):=inferInstance
instance:DecidableEq (List aT×Int×List aY×Unit):=inferInstance
instance aJj:DecidableEq aHO:=(inferInstance:DecidableEq (List iZ×List aT×Int×List aY×Unit))
instance:DecidableEq (List aY×Int×Unit):=inferInstance
instance:DecidableEq (Int×List aY×Int×Unit):=inferInstance
instance:DecidableEq (List aT×Int×List aY×Int×Unit):=inferInstance
instance:DecidableEq (List iZ×List aT×Int×List aY×Int×Unit):=inferInstance
instance aJs:DecidableEq aHc:=(inferInstance:DecidableEq (Int×List iZ×List aT×Int×List aY×Int×Unit))
instance:DecidableEq (List aHc):=inferInstance
def nodeAt (q:List bY) (i:Nat):bY:=q.getD i (0,0,0,[],0,0,[],())
def mg (n:bY):Bool:=n.1==6||n.1==7
def lN (n:bY):Bool:=n.1==8||n.1==9
def mr (n:bY) (a:Int):Bool:=
 let kids:=decide (0≤n.2.1)&&decide (n.2.1≤a-1)&&decide (0<a)
 let two:=decide (0≤n.2.2.1)&&decide (n.2.2.1≤a-1)
 let bare:=n.2.2.2.1==[]&&(n.2.2.2.2.1==0&&(n.2.2.2.2.2.1==0&&n.2.2.2.2.2.2.1==[]))
 let flat:=n.2.1==0&&n.2.2.1==0
 let valued:=kY n.2.2.2.2.1 n.2.2.2.2.2.1 n.2.2.2.2.2.2.1
 let void:=n.2.2.2.2.1==0&&(n.2.2.2.2.2.1==0&&n.2.2.2.2.2.2.1==[])
 bif n.1==1 then flat&&bare else bif n.1==2 then flat&&void&&lD n.2.2.2.1 else
 bif n.1==3 then flat&&lD n.2.2.2.1&&valued&&!(n.2.2.2.2.1==0) else bif n.1==4 then flat&&lD n.2.2.2.1&&valued&&n.2.2.2.2.1==1 else
 bif n.1==5 then kids&&n.2.2.1==0&&bare else bif n.1==6||n.1==7 then kids&&two&&bare else
 bif n.1==8||n.1==9 then flat&&void&&jB n.2.2.2.1 else false
def refsOf (a:Int) (n:bY):Nat:=(bif (mg n||n.1==5)&&n.2.1==a then 1 else 0)+(bif mg n&&n.2.2.1==a then 1 else 0)
def pK (q:List bY) (a:Int):Nat:=(q.map (refsOf a)).sum
def qY (q:List bY) (i:Nat):Bool:=mr (nodeAt q i) i&&!(decide ((i:Int)<(q.length:Int)-1)&&!(pK q i==1))
def dn (q:List bY):Bool:=l9 q.length (qY q)&&(decide (1≤(q.length:Int))&&decide ((q.length:Int)≤9))
def fO (d:List aY) (i:Nat):aY:=d.getD i ([],[],())
def sO (d:List aY) (i:Nat):Bool:=jB (fO d i).1&&dn (fO d i).2.1&&!(decide (0<i)&&!Op.bytesLess (fO d (i-1)).1 (fO d i).1)
def iY (d:List aY):Bool:=l9 d.length (sO d)&&decide ((d.length:Int)≤5)
def oD (q:List bY) (i:Nat) (out:List (Bool×Unit)):List (Bool×Unit):=
 let n:=nodeAt q i
 bif n.1==5 then out.set n.2.1.toNat (true,()) else bif mg n then (out.set n.2.1.toNat ((out.getD i (false,())).1,())).set n.2.2.1.toNat ((out.getD i (false,())).1,()) else out
def kR (q:List bY):Nat→List (Bool×Unit)→List (Bool×Unit)
 |0,out=>out
 |n+1,out=>kR q n (oD q n out)
def negated (q:List bY):List (Bool×Unit):=bif dn q then kR q q.length (List.replicate q.length (false,())) else []
def fP (q:List bY) (neg:Bool):List Bytes:=(List.range (negated q).length).filterMap fun i=>bif lN (nodeAt q i)&&((negated q).getD i (false,())).1==neg then some (nodeAt q i).2.2.2.1 else none
def Pm:Int→List aY→Bytes→Int
 |_,[],_=>-1
 |k,x::r,s=>bif x.1==s then k else Pm (k+1) r s
def aX (d:List aY) (s:Bytes):Int:=Pm 0 d s
def fJ (d:List aY):ahC:=
 (List.range d.length).flatMap fun i=>
   ((fP (fO d i).2.1 false).filterMap fun s=>bif decide (0≤aX d s) then some (i,(aX d s).toNat,0) else none)++
   ((fP (fO d i).2.1 true).filterMap fun s=>bif decide (0≤aX d s) then some (i,(aX d s).toNat,1) else none)
open Classical in
noncomputable def aF (d:List aY):Bool:=iY d&&decide (∃ L,kM (fJ d) L)
def cO (r:LS) (l:List Bytes):Prop:=r.length≤1000∧∀ s,(s,())∈r↔s∈l
def ET (d:List aY) (aI:List (Int×Unit)) (more:Int):LS→Int
 |[]=>0
 |x::r=>max (bif decide (0≤aX d x.1) then (aI.getD (aX d x.1).toNat (0,())).1+more else 0) (ET d aI more r)
def Il (l:LS) (s:Bytes):LS:=
 let n:=(l.takeWhile fun x=>Op.bytesLess x.1 s).length
 bif decide (n<l.length)&&(l.getD n ([],())).1==s then l else l.take n++[(s,())]++l.drop n
def raised (d:List aY) (aI r:List (Int×Unit)):Prop:=
 r.length=d.length∧(∀ i,i<d.length→(aI.getD i (0,())).1≤(r.getD i (0,())).1)∧(∀ B:Int,(∀ i,i<d.length→(aI.getD i (0,())).1≤B)→∀ i,i<d.length→(r.getD i (0,())).1≤B+5000)∧
 ((∀ i,i<d.length→(r.getD i (0,())).1=(aI.getD i (0,())).1)→kM (fJ d) fun i=>(aI.getD i (0,())).1.toNat)∧
 ∀ M,kM (fJ d) M→(∀ i,i<d.length→(aI.getD i (0,())).1≤M i)→∀ i,i<d.length→(r.getD i (0,())).1≤M i
def aO (d:List aY):Prop:=d.length≤1000∧∀ x∈d,x.2.1.length≤1000
end Sp
namespace Sp
open Go
end Sp
namespace Sp
open Go
theorem amR (s:Bytes):∀ (d:List aY) (k:Int),(Pm k d s=-1∧∀ x∈d,x.1≠s)∨∃ n,n<d.length∧Pm k d s=k+n∧(fO d n).1=s∧∀ i,i<n→(fO d i).1≠s
 |[],k=> .inl ⟨rfl,fun x hx=>by cases hx⟩
 |x::r,k=>by
  by_cases h:x.1=s
  · right
    refine ⟨0,by simp,?_,h,fun i hi=>by omega⟩
    rw [Pm,beq_iff_eq.2 h];simp
  · rcases amR s r (k+1) with ⟨h1,h2⟩|⟨n,h1,h2,h3,h4⟩
    · left
      refine ⟨by rw [Pm,beq_eq_false_iff_ne.2 h];exact h1,fun y hy=>?_⟩
      rcases List.mem_cons.1 hy with rfl|hy
      · exact h
      · exact h2 y hy
    · right
      refine ⟨n+1,by simp;omega,by rw [Pm,beq_eq_false_iff_ne.2 h];show Pm (k+1) r s=_;omega,h3,fun i hi=>?_⟩
      cases i with
      |zero=>exact h
      |succ i=>exact h4 i (by omega)
theorem Pj (d:List aY) (s:Bytes):(aX d s=-1∧∀ x∈d,x.1≠s)∨∃ n,n<d.length∧aX d s=n∧(fO d n).1=s∧∀ i,i<n→(fO d i).1≠s:=by
 rcases amR s d 0 with h|⟨n,h1,h2,h3⟩
 · exact .inl h
 · exact .inr ⟨n,h1,by show Pm 0 d s=_;omega,h3⟩
theorem XO {d:List aY} {s:Bytes} (h:0≤aX d s):aX d s<d.length:=by
 rcases Pj d s with ⟨h1,_⟩|⟨n,h1,h2,_⟩<;>omega
theorem OX {d:List aY} {i j m:Nat}:(i,j,m)∈fJ d↔i<d.length∧∃ s,((m=0∧s∈fP (fO d i).2.1 false)∨(m=1∧s∈fP (fO d i).2.1 true))∧0≤aX d s∧j=(aX d s).toNat:=by
 unfold fJ
 rw [List.mem_flatMap]
 constructor
 · rintro ⟨k,hk,h⟩
   rw [List.mem_range] at hk
   rcases List.mem_append.1 h with h|h
   all_goals
    obtain ⟨s,hs,e⟩:=List.mem_filterMap.1 h
    rw [cond_eq_ite] at e
    split at e
    · next hp=>
      have hp:0≤aX d s:=of_decide_eq_true hp
      cases e
      exact ⟨hk,s,by first|exact .inl ⟨rfl,hs⟩|exact .inr ⟨rfl,hs⟩,hp,rfl⟩
    · cases e
 · rintro ⟨hi,s,h|h,hp,rfl⟩
   · obtain ⟨rfl,hs⟩:=h
     refine ⟨i,List.mem_range.2 hi,List.mem_append.2 (.inl (List.mem_filterMap.2 ⟨s,hs,?_⟩))⟩
     rw [decide_eq_true hp];rfl
   · obtain ⟨rfl,hs⟩:=h
     refine ⟨i,List.mem_range.2 hi,List.mem_append.2 (.inr (List.mem_filterMap.2 ⟨s,hs,?_⟩))⟩
     rw [decide_eq_true hp];rfl
theorem qi (d:List aY):aya (fJ d) d.length:=by
 rintro ⟨i,j,m⟩ he
 obtain ⟨h1,s,h2,h3,h4⟩:=OX.1 he
 have:=XO h3
 refine ⟨h1,?_,?_⟩
 · show j<_;omega
 · show m≤1;rcases h2 with ⟨h,_⟩|⟨h,_⟩<;>omega
def lv (l:List (Int×Unit)) (i:Nat):Int:=(l.getD i (0,())).1
theorem aBs {l:List (Int×Unit)} {i:Nat} (hi:i<l.length) (x:Int) (k:Nat):lv (l.set i (x,())) k=if k=i then x else lv l k:=by
 unfold lv
 rw [List.getD_eq_getElem?_getD,List.getD_eq_getElem?_getD]
 by_cases h:k=i
 · subst h;rw [List.getElem?_set_self hi,if_pos rfl];rfl
 · rw [List.getElem?_set_ne (fun e=>h e.symm),if_neg h]
theorem ame {l:List (Int×Unit)} {i:Nat} (hi:i<l.length):(lv l i,())∈l:=by
 unfold lv
 rw [List.getD_eq_getElem?_getD,List.getElem?_eq_getElem hi]
 exact List.getElem_mem hi
theorem aBr {l:List (Int×Unit)} {p:Int→Prop} (h:∀ i,i<l.length→p (lv l i)):∀ x∈l,p x.1:=by
 intro x hx
 obtain ⟨i,hi,e⟩:=List.getElem_of_mem hx
 have:=h i hi
 unfold lv at this
 rw [List.getD_eq_getElem?_getD,List.getElem?_eq_getElem hi] at this
 rw [← e];exact this
theorem aER {a b:List (Int×Unit)} (hl:a.length=b.length) (h:∀ i,i<a.length→lv a i=lv b i):a=b:=by
 refine List.ext_getElem hl fun i h1 h2=>?_
 have:=h i h1
 unfold lv at this
 rw [List.getD_eq_getElem?_getD,List.getD_eq_getElem?_getD,List.getElem?_eq_getElem h1,List.getElem?_eq_getElem h2] at this
 exact Prod.ext this rfl
structure WR (d:List aY) (aI cur:List (Int×Unit)) (g:Int) (P:Nat×Nat×Nat→Prop):Prop where
 len:cur.length=d.length
 up:∀ i,i<d.length→lv aI i≤lv cur i
 grow:∀ B,(∀ i,i<d.length→lv aI i≤B)→∀ i,i<d.length→lv cur i≤B+g
 fix:(∀ i,i<d.length→lv cur i=lv aI i)→∀ e,P e→lv aI e.2.1+e.2.2≤lv aI e.1
 below:∀ M,kM (fJ d) M→(∀ i,i<d.length→lv aI i≤M i)→∀ i,i<d.length→lv cur i≤M i
theorem WR.start {d:List aY} {aI:List (Int×Unit)} (h:aI.length=d.length):WR d aI aI 0 fun _=>False:=
 ⟨h,fun _ _=>Int.le_refl _,fun B hB i hi=>by have:=hB i hi;omega,fun _ e he=>he.elim,fun _ _ h=>h⟩
theorem WR.weaken {d:List aY} {aI cur:List (Int×Unit)} {g g':Int} {P P':Nat×Nat×Nat→Prop} (h:WR d aI cur g P) (hg:g≤g') (hP:∀ e,P' e→P e):WR d aI cur g' P':=
 ⟨h.len,h.up,fun B hB i hi=>by have:=h.grow B hB i hi;omega,fun hx e he=>h.fix hx e (hP e he),h.below⟩
theorem WR.still {d:List aY} {aI cur:List (Int×Unit)} {g:Int} {P:Nat×Nat×Nat→Prop} (h:WR d aI cur g P) {i j m:Nat} (he:(i,j,m)∈fJ d) (hle:lv cur j+m≤lv cur i):WR d aI cur g fun e=>P e∨e=(i,j,m):=by
 obtain ⟨h1,h2,_⟩:=qi d _ he
 refine ⟨h.len,h.up,h.grow,fun hx e hp=>?_,h.below⟩
 rcases hp with hp|rfl
 · exact h.fix hx e hp
 · have a:=hx i h1
   have b:=hx j h2
   show lv aI j+m≤lv aI i
   omega
theorem WR.set {d:List aY} {aI cur:List (Int×Unit)} {g:Int} {P:Nat×Nat×Nat→Prop} (h:WR d aI cur g P) {i j m:Nat} (he:(i,j,m)∈fJ d) (hlt:lv cur i<lv cur j+m):WR d aI (cur.set i (lv cur j+m,())) (g+m) fun e=>P e∨e=(i,j,m):=by
 obtain ⟨h1,h2,_⟩:=qi d _ he
 have h1:i<d.length:=h1
 have h2:j<d.length:=h2
 have hl:=h.len
 have hs:=fun k=>aBs (l:=cur) (i:=i) (by omega) (lv cur j+m) k
 refine ⟨by simp;omega,fun k hk=>?_,fun B hB k hk=>?_,fun hx e hp=>?_,fun M hM hb k hk=>?_⟩
 · rw [hs];have a:=h.up k hk;split
   · next e=>subst e;omega
   · exact a
 · rw [hs]
   have a:=h.grow B hB k hk
   have b:=h.grow B hB j h2
   split<;>omega
 · have:=hx i h1
   rw [hs,if_pos rfl] at this
   have:=h.up i h1
   omega
 · rw [hs]
   split
   · next e=>
     subst e
     have a:=h.below M hM hb j h2
     have b:=hM _ he
     have b:M j+m≤M k:=b
     omega
   · exact h.below M hM hb k hk
theorem WR.raised {d:List aY} {aI cur:List (Int×Unit)} {g:Int} {P:Nat×Nat×Nat→Prop} (h:WR d aI cur g P) (hg:g≤5000) (hP:∀ e∈fJ d,P e) (h0:∀ i,i<d.length→0≤lv aI i):raised d aI cur:=by
 refine ⟨h.len,h.up,fun B hB i hi=>by have:=h.grow B hB i hi;show lv cur i≤_;omega,fun hx e he=>?_,h.below⟩
 have a:=h.fix hx e (hP e he)
 obtain ⟨h1,h2,_⟩:=qi d _ he
 have b:=h0 _ h1
 have c:=h0 _ h2
 show (lv aI e.2.1).toNat+e.2.2≤(lv aI e.1).toNat
 omega
theorem avW (d:List aY) (aI:List (Int×Unit)) (hl:aI.length=d.length):∀ (E:ahC),(∀ e∈E,e∈fJ d)→∃ cur:List (Int×Unit),cur.length=d.length∧(∀ i,i<d.length→lv aI i≤lv cur i∧(lv cur i=lv aI i∨∃ e∈E,e.1=i∧lv cur i=lv aI e.2.1+e.2.2))∧∀ e∈E,lv aI e.2.1+e.2.2≤lv cur e.1
 |[],_=>⟨aI,hl,fun i hi=>⟨Int.le_refl _, .inl rfl⟩,fun e he=>by cases he⟩
 |e::E,hE=>by
  obtain ⟨cur,h1,h2,h3⟩:=avW d aI hl E fun x hx=>hE x (List.mem_cons_of_mem _ hx)
  obtain ⟨g1,g2,_⟩:=qi d e (hE e List.mem_cons_self)
  by_cases h:lv cur e.1<lv aI e.2.1+e.2.2
  · have hs:=fun k=>aBs (l:=cur) (i:=e.1) (by omega) (lv aI e.2.1+e.2.2) k
    refine ⟨cur.set e.1 (lv aI e.2.1+e.2.2,()),by simp;omega,fun i hi=>?_,fun x hx=>?_⟩
    · rw [hs]
      have:=h2 i hi
      split
      · next hi'=>exact ⟨by rw [hi'] at this ⊢;omega, .inr ⟨e,List.mem_cons_self,hi'.symm,rfl⟩⟩
      · refine ⟨this.1,this.2.imp_right fun ⟨x,hx,hy⟩=>⟨x,List.mem_cons_of_mem _ hx,hy⟩⟩
    · rw [hs]
      rcases List.mem_cons.1 hx with rfl|hx
      · rw [if_pos rfl];omega
      · have:=h3 x hx
        split
        · next he=>rw [he] at this;omega
        · exact this
  · refine ⟨cur,h1,fun i hi=>?_,fun x hx=>?_⟩
    · have:=h2 i hi
      exact ⟨this.1,this.2.imp_right fun ⟨x,hx,hy⟩=>⟨x,List.mem_cons_of_mem _ hx,hy⟩⟩
    · rcases List.mem_cons.1 hx with rfl|hx
      · omega
      · exact h3 x hx
theorem aCg (d:List aY) (aI:List (Int×Unit)) (hl:aI.length=d.length) (h0:∀ i,i<d.length→0≤lv aI i):∃ cur,raised d aI cur:=by
 obtain ⟨cur,h1,h2,h3⟩:=avW d aI hl (fJ d) fun _ h=>h
 refine ⟨cur,h1,fun i hi=>(h2 i hi).1,fun B hB i hi=>?_,fun hx e he=>?_,fun M hM hb i hi=>?_⟩
 · show lv cur i≤_
   rcases (h2 i hi).2 with h|⟨e,he,rfl,h⟩
   · rw [h];have:=hB i hi;show (aI.getD i (0,())).1≤_;omega
   · obtain ⟨_,g2,g3⟩:=qi d e he
     have:lv aI e.2.1≤B:=hB _ g2
     omega
 · obtain ⟨g1,g2,_⟩:=qi d e he
   have a:=h3 e he
   have b:=h0 _ g1
   have c:=h0 _ g2
   have x:lv cur e.1=lv aI e.1:=hx _ g1
   show (lv aI e.2.1).toNat+e.2.2≤(lv aI e.1).toNat
   omega
 · show lv cur i≤_
   rcases (h2 i hi).2 with h|⟨e,he,rfl,h⟩
   · rw [h];exact hb i hi
   · obtain ⟨_,g2,_⟩:=qi d e he
     have a:lv aI e.2.1≤M e.2.1:=hb _ g2
     have b:=hM e he
     omega
theorem Ua {d:List aY} {aI:List (Int×Unit)} {more:Int}:∀ (r:LS) (B:Int),ET d aI more r≤B↔0≤B∧∀ x∈r,0≤aX d x.1→lv aI (aX d x.1).toNat+more≤B
 |[],B=>by simp [ET]
 |x::r,B=>by
  have ih:=Ua (d:=d) (aI:=aI) (more:=more) r B
  rw [ET]
  have e:∀ a b:Int,max a b≤B↔a≤B∧b≤B:=fun a b=>by omega
  rw [e,ih]
  simp only [List.mem_cons,forall_eq_or_imp]
  by_cases h:0≤aX d x.1
  · rw [decide_eq_true h]
    show lv aI _+more≤B∧_↔_
    constructor
    · exact fun ⟨a,b,c⟩=>⟨b,fun _=>a,c⟩
    · exact fun ⟨a,b,c⟩=>⟨b h,a,c⟩
  · rw [decide_eq_false h]
    show (0:Int)≤B∧_↔_
    constructor
    · exact fun ⟨a,b,c⟩=>⟨b,fun h'=>(h h').elim,c⟩
    · exact fun ⟨a,b,c⟩=>⟨a,a,c⟩
def Ib (l:List (Int×Unit)):Nat→Int
 |0=>0
 |n+1=>Ib l n+lv l n
theorem asb {a b:List (Int×Unit)}:∀ n,(∀ i,i<n→lv a i≤lv b i)→Ib a n≤Ib b n
 |0,_=>Int.le_refl _
 |n+1,h=>Int.add_le_add (asb n fun i hi=>h i (by omega)) (h n (by omega))
theorem asa {a b:List (Int×Unit)}:∀ n,(∀ i,i<n→lv a i≤lv b i)→(∃ i,i<n∧lv a i<lv b i)→Ib a n<Ib b n
 |0,_,⟨i,hi,_⟩=>by omega
 |n+1,h,⟨i,hi,hl⟩=>by
  have h1:=asb n fun j hj=>h j (Nat.lt_succ_of_lt hj)
  show Ib a n+lv a n<Ib b n+lv b n
  by_cases e:i=n
  · subst e;omega
  · have:=asa n (fun j hj=>h j (Nat.lt_succ_of_lt hj)) ⟨i,by omega,hl⟩
    have:=h n (by omega)
    omega
theorem ad1 {a:List (Int×Unit)} {b:Nat}:∀ n:Nat,(∀ i,i<n→lv a i≤b)→Ib a n≤(n*b:Nat)
 |0,_=>by simp [Ib]
 |n+1,h=>by
  have h1:=ad1 n fun i hi=>h i (Nat.lt_succ_of_lt hi)
  have h2:=h n (by omega)
  show Ib a n+lv a n≤((n+1)*b:Nat)
  rw [Nat.succ_mul];omega
theorem al8 {a:List (Int×Unit)}:∀ n:Nat,(∀ i,i<n→0≤lv a i)→0≤Ib a n
 |0,_=>Int.le_refl _
 |n+1,h=>Int.add_nonneg (al8 n fun i hi=>h i (by omega)) (h n (by omega))
theorem sN {d:List aY}:aF d=true↔iY d=true∧∃ L,kM (fJ d) L:=by
 unfold aF
 simp
theorem agX {d:List aY} (h:iY d=true):d.length≤5:=by
 unfold iY at h
 simp only [Bool.and_eq_true,decide_eq_true_eq] at h
 omega
end Sp
namespace Sp
abbrev Ext (ι α:Type):=ι→α→Bool
structure Sys (ι α:Type) where
 T:ι→Ext ι α→α→Prop
 pos:ι→ι→Prop
 neg:ι→ι→Prop
 mono:∀ i X Y,(∀ j,pos i j→∀ x,X j x=true→Y j x=true)→(∀ j,neg i j→∀ x,X j x=Y j x)→∀ x,T i X x→T i Y x
def aAo {ι α:Type} (S:Sys ι α) (N:ι→Prop) (aI:ι→Nat):Prop:=∀ i j,N i→N j→(S.pos i j→aI j≤aI i)∧(S.neg i j→aI j<aI i)
structure Eval {ι α:Type} (S:Sys ι α) (N:ι→Prop) (aI:ι→Nat) (X:Ext ι α):Prop where
 fix:∀ i,N i→∀ x,X i x=true↔S.T i X x
 least:∀ k (Y:Ext ι α),(∀ i,¬ (N i∧aI i=k)→∀ x,Y i x=X i x)→(∀ i,N i→aI i=k→∀ x,S.T i Y x→Y i x=true)→∀ i,N i→aI i=k→∀ x,X i x=true→Y i x=true
open Classical in
theorem aCU {ι α:Type} {P:ι→Prop} {A B:Ext ι α}:∃ Y:Ext ι α,(∀ i x,Y i x=true↔A i x=true∧(P i→B i x=true))∧∀ i,¬ P i→∀ x,Y i x=A i x:=by
 have h:∀ i x,decide (A i x=true∧(P i→B i x=true))=true↔A i x=true∧(P i→B i x=true):=fun i x=>decide_eq_true_iff
 refine ⟨fun i x=>decide (A i x=true∧(P i→B i x=true)),h,fun i hi x=>?_⟩
 rw [Bool.eq_iff_iff,h]
 exact ⟨fun h=>h.1,fun h=>⟨h,fun h'=>(hi h').elim⟩⟩
theorem aek {ι α:Type} {S1 S2:Sys ι α} {N1 N2 U:ι→Prop} {l1 l2:ι→Nat} {X1 X2:Ext ι α}
 (h1:Eval S1 N1 l1 X1) (h2:Eval S2 N2 l2 X2) (s1:aAo S1 N1 l1) (s2:aAo S2 N2 l2) (u1:∀ i,U i→N1 i) (u2:∀ i,U i→N2 i)
 (hT:∀ i,U i→∀ X x,S1.T i X x↔S2.T i X x) (hp:∀ i,U i→∀ j,S2.pos i j→S1.pos i j) (hn:∀ i,U i→∀ j,S2.neg i j→S1.neg i j)
 (hc:∀ i,U i→∀ j,S1.pos i j∨S1.neg i j→U j∨∀ x,X1 j x=X2 j x):∀ i,U i→∀ x,X1 i x=X2 i x:=by
 have key:∀ k,∀ i,U i→l1 i=k→∀ x,X1 i x=X2 i x:=by
  intro k
  induction k using Nat.strongRecOn with
  |_ k ih=>
   have below:∀ j,U j→l1 j<k→∀ x,X1 j x=X2 j x:=fun j hj hl=>ih (l1 j) hl j hj rfl
   have aHP:∀ i,U i→l1 i=k→∀ x,X1 i x=true→X2 i x=true:=by
    obtain ⟨Y,hY,hY'⟩:=aCU (P:=fun i=>U i∧l1 i=k) (A:=X1) (B:=X2)
    have:=h1.least k Y (fun i hi=>hY' i fun h=>hi ⟨u1 i h.1,h.2⟩) fun i hN hl x hx=>by
     have aBE:∀ j,S1.neg i j→∀ x,Y j x=X1 j x:=fun j hj=>hY' j fun h=>by
      have:=(s1 i j hN (u1 j h.1)).2 hj;omega
     refine (hY i x).2 ⟨(h1.fix i hN x).2 (S1.mono i Y X1 (fun j _ y hy=>((hY j y).1 hy).1) aBE x hx),fun hU=>?_⟩
     refine (h2.fix i (u2 i hU.1) x).2 ((hT i hU.1 X2 x).1 (S1.mono i Y X2 (fun j hj y hy=>?_) (fun j hj y=>?_) x hx))
     · have hy:=(hY j y).1 hy
       rcases hc i hU.1 j (.inl hj) with h|h
       · have hl2:=(s1 i j hN (u1 j h)).1 hj
         rcases Nat.lt_or_ge (l1 j) k with h3|h3
         · rw [← below j h h3];exact hy.1
         · exact hy.2 ⟨h,by omega⟩
       · rw [← h];exact hy.1
     · rw [aBE j hj]
       rcases hc i hU.1 j (.inr hj) with h|h
       · exact below j h (by have:=(s1 i j hN (u1 j h)).2 hj;omega) y
       · exact h y
    exact fun i hU hl x hx=>((hY i x).1 (this i (u1 i hU) hl x hx)).2 ⟨hU,hl⟩
   have aHQ:∀ m,∀ i,U i→l1 i=k→l2 i=m→∀ x,X2 i x=true→X1 i x=true:=by
    intro m
    induction m using Nat.strongRecOn with
    |_ m ih2=>
     obtain ⟨Y,hY,hY'⟩:=aCU (P:=fun i=>U i∧l1 i=k∧l2 i=m) (A:=X2) (B:=X1)
     have:=h2.least m Y (fun i hi=>hY' i fun h=>hi ⟨u2 i h.1,h.2.2⟩) fun i hN hl x hx=>by
      have aBE:∀ j,S2.neg i j→∀ x,Y j x=X2 j x:=fun j hj=>hY' j fun h=>by
       have:=(s2 i j hN (u2 j h.1)).2 hj;omega
      refine (hY i x).2 ⟨(h2.fix i hN x).2 (S2.mono i Y X2 (fun j _ y hy=>((hY j y).1 hy).1) aBE x hx),fun hU=>?_⟩
      refine (h1.fix i (u1 i hU.1) x).2 ((hT i hU.1 X1 x).2 (S2.mono i Y X1 (fun j hj y hy=>?_) (fun j hj y=>?_) x hx))
      · have hy:=(hY j y).1 hy
        have hj1:=hp i hU.1 j hj
        rcases hc i hU.1 j (.inl hj1) with h|h
        · have g1:=(s1 i j (u1 i hU.1) (u1 j h)).1 hj1
          have g2:=(s2 i j hN (u2 j h)).1 hj
          rcases Nat.lt_or_ge (l1 j) k with h3|h3
          · rw [below j h h3];exact hy.1
          · rcases Nat.lt_or_ge (l2 j) m with h4|h4
            · exact ih2 (l2 j) h4 j h (by omega) rfl y hy.1
            · exact hy.2 ⟨h,by omega,by omega⟩
        · rw [h];exact hy.1
      · rw [aBE j hj]
        have hj1:=hn i hU.1 j hj
        rcases hc i hU.1 j (.inr hj1) with h|h
        · exact (below j h (by have:=(s1 i j (u1 i hU.1) (u1 j h)).2 hj1;omega) y).symm
        · exact (h y).symm
     exact fun i hU hl1 hl2 x hx=>((hY i x).1 (this i (u2 i hU) hl2 x hx)).2 ⟨hU,hl1,hl2⟩
   exact fun i hU hl x=>Bool.eq_iff_iff.2 ⟨aHP i hU hl x,aHQ (l2 i) i hU hl rfl x⟩
 exact fun i hU x=>key (l1 i) i hU rfl x
end Sp
namespace Sp
open Go
abbrev eY:=Bytes×List (Int×Unit)×Unit
abbrev BX:=Ext Bytes Int
def dF:List gZ→Bytes→aBt
 |[],_=>(0,0,[],())
 |a::r,s=>bif a.1==s then (a.2.1,a.2.2.1,a.2.2.2.1,()) else dF r s
def gW:List eY→Bytes→List (Int×Unit)
 |[],_=>[]
 |x::r,s=>bif x.1==s then x.2.1 else gW r s
def gu (l:List (Int×Unit)) (x:Int):Bool:=l.any fun y=>y.1==x
def bK (r:List eY):BX:=fun s x=>gu (gW r s) x
theorem Uc {l:List (Int×Unit)} {x:Int}:gu l x=true↔(x,())∈l:=by
 unfold gu
 rw [List.any_eq_true]
 exact ⟨fun ⟨y,hy,h⟩=>by rw [← beq_iff_eq.1 h];exact hy,fun h=>⟨_,h,beq_iff_eq.2 rfl⟩⟩
def jV (n:bY) (f:aT) (X:BX):Bool:=
 bif n.1==2 then !((dF f.2.2.2.2.1 n.2.2.2.1).1==0) else
 bif n.1==3 then decide (dF f.2.2.2.2.1 n.2.2.2.1=(n.2.2.2.2.1,n.2.2.2.2.2.1,n.2.2.2.2.2.2.1,())) else
 bif n.1==4 then (dF f.2.2.2.2.1 n.2.2.2.1).1==1&&decide ((dF f.2.2.2.2.1 n.2.2.2.1).2.1<n.2.2.2.2.2.1) else
 bif n.1==8 then X n.2.2.2.1 f.1 else
 bif n.1==9 then !(f.2.2.2.1==0)&&X n.2.2.2.1 f.2.2.2.1 else true
def val (q:List bY) (f:aT) (X:BX) (a:Nat):Bool:=
 if (nodeAt q a).1=5 then (if h:(nodeAt q a).2.1.toNat<a then !val q f X (nodeAt q a).2.1.toNat else true)
 else if (nodeAt q a).1=6 then (if h:(nodeAt q a).2.1.toNat<a∧(nodeAt q a).2.2.1.toNat<a then val q f X (nodeAt q a).2.1.toNat&&val q f X (nodeAt q a).2.2.1.toNat else true)
 else if (nodeAt q a).1=7 then (if h:(nodeAt q a).2.1.toNat<a∧(nodeAt q a).2.2.1.toNat<a then val q f X (nodeAt q a).2.1.toNat||val q f X (nodeAt q a).2.2.1.toNat else true)
 else jV (nodeAt q a) f X
termination_by a
decreasing_by all_goals omega
theorem YA (q:List bY) (f:aT) (X:BX) (a:Nat):val q f X a=
 if (nodeAt q a).1=5 then (if h:(nodeAt q a).2.1.toNat<a then !val q f X (nodeAt q a).2.1.toNat else true)
 else if (nodeAt q a).1=6 then (if h:(nodeAt q a).2.1.toNat<a∧(nodeAt q a).2.2.1.toNat<a then val q f X (nodeAt q a).2.1.toNat&&val q f X (nodeAt q a).2.2.1.toNat else true)
 else if (nodeAt q a).1=7 then (if h:(nodeAt q a).2.1.toNat<a∧(nodeAt q a).2.2.1.toNat<a then val q f X (nodeAt q a).2.1.toNat||val q f X (nodeAt q a).2.2.1.toNat else true)
 else jV (nodeAt q a) f X:=by rw [val]
def jC (q:List bY) (f:aT) (X:BX):Bool:=dn q&&val q f X (q.length-1)
def sel (fs:List aT) (q:List bY) (X:BX):List (Int×Unit):=(fs.filter fun f=>jC q f X).map fun f=>(f.1,())
def LW (q:List bY) (i:Nat):Bool:=((negated q).getD i (false,())).1
theorem abY {q:List bY} (h:dn q=true) {i:Nat} (hi:i<q.length):mr (nodeAt q i) i=true∧((i:Int)<(q.length:Int)-1→pK q i=1):=by
 unfold dn at h
 rw [Bool.and_eq_true] at h
 have h1:qY q i=true:=by
  have:=h.1
  unfold l9 at this
  exact List.all_eq_true.1 this i (List.mem_range.2 hi)
 unfold qY at h1
 rw [Bool.and_eq_true] at h1
 refine ⟨h1.1,fun hl=>?_⟩
 have h2:=h1.2
 rw [decide_eq_true hl] at h2
 simpa using h2
theorem Q9 {q:List bY} (h:dn q=true):1≤q.length∧q.length≤9:=by
 unfold dn at h
 simp only [Bool.and_eq_true,decide_eq_true_eq] at h
 omega
theorem aqx {n:bY} {a:Nat} (h:mr n a=true) (hn:n.1=5∨n.1=6∨n.1=7):0≤n.2.1∧n.2.1.toNat<a:=by
 unfold mr at h
 rcases hn with e|e|e<;>simp [e] at h<;>omega
theorem aaC {n:bY} {a:Nat} (h:mr n a=true) (hn:n.1=6∨n.1=7):0≤n.2.2.1∧n.2.2.1.toNat<a:=by
 unfold mr at h
 rcases hn with e|e<;>simp [e] at h<;>omega
theorem aCV {α:Type} (g:α→Nat):∀ (l:List α),(l.map g).sum=1→∀ i j,i<l.length→j<l.length→i≠j→∀ d,1≤g (l.getD i d)→g (l.getD j d)=0
 |[],_,i,_,hi,_,_,_,_=>by simp at hi
 |x::r,h,i,j,hi,hj,hne,d,hg=>by
  rw [List.map_cons,List.sum_cons] at h
  have mem:∀ (l:List α) k,k<l.length→g (l.getD k d)≤(l.map g).sum:=by
   intro l
   induction l with
   |nil=>intro k hk;simp at hk
   |cons y t ih=>
    intro k hk
    rw [List.map_cons,List.sum_cons]
    cases k with
    |zero=>exact Nat.le_add_right _ _
    |succ k=>exact Nat.le_trans (ih k (by simpa using hk)) (Nat.le_add_left _ _)
  cases i with
  |zero=>
   cases j with
   |zero=>exact (hne rfl).elim
   |succ j=>
    have h1:1≤g x:=hg
    have:=mem r j (by simpa using hj)
    show g (r.getD j d)=0
    omega
  |succ i=>
   have h1:1≤g (r.getD i d):=hg
   have h2:=mem r i (by simpa using hi)
   cases j with
   |zero=>show g x=0;omega
   |succ j=>exact aCV g r (by omega) i j (by simpa using hi) (by simpa using hj) (by omega) d hg
theorem VJ {q:List bY} {p:Nat}:∀ (n:Nat) (out:List (Bool×Unit)),(∀ i,i<n→((nodeAt q i).1=5∨mg (nodeAt q i)=true→(nodeAt q i).2.1.toNat≠p)∧(mg (nodeAt q i)=true→(nodeAt q i).2.2.1.toNat≠p))→
 (kR q n out).getD p (false,())=out.getD p (false,())
 |0,_,_=>rfl
 |n+1,out,h=>by
  have ih:=VJ n (oD q n out) fun i hi=>h i (by omega)
  show (kR q n (oD q n out)).getD p (false,())=_
  rw [ih]
  have hs:∀ (l:List (Bool×Unit)) k x,k≠p→(l.set k x).getD p (false,())=l.getD p (false,()):=fun l k x hk=>by
   rw [List.getD_eq_getElem?_getD,List.getElem?_set_ne hk,← List.getD_eq_getElem?_getD]
  obtain ⟨h1,h2⟩:=h n (by omega)
  unfold oD
  dsimp only
  cases e5:((nodeAt q n).1==5) with
  |true=>exact hs _ _ _ (h1 (.inl (beq_iff_eq.1 e5)))
  |false=>
   cases e2:mg (nodeAt q n) with
   |true=>exact (hs _ _ _ (h2 e2)).trans (hs _ _ _ (h1 (.inr e2)))
   |false=>rfl
theorem Rh (q:List bY):∀ (n:Nat) (out:List (Bool×Unit)),(kR q n out).length=out.length
 |0,_=>rfl
 |n+1,out=>by
  show (kR q n (oD q n out)).length=_
  rw [Rh q n]
  unfold oD
  dsimp only
  cases (nodeAt q n).1==5<;>cases mg (nodeAt q n)<;>simp
theorem Ic {n:bY}:mg n=true↔n.1=6∨n.1=7:=by
 unfold mg;simp
theorem aik (q:List bY):∀ (k m:Nat) (out:List (Bool×Unit)),∃ mid:List (Bool×Unit),mid.length=out.length∧kR q (m+k) out=kR q m mid
 |0,_,out=>⟨out,rfl,rfl⟩
 |k+1,m,out=>by
  obtain ⟨mid,h1,h2⟩:=aik q k m (oD q (m+k) out)
  have hl:(oD q (m+k) out).length=out.length:=by
   unfold oD
   dsimp only
   cases (nodeAt q (m+k)).1==5<;>cases mg (nodeAt q (m+k))<;>simp
  exact ⟨mid,h1.trans hl,h2⟩
theorem abX {q:List bY} (h:dn q=true) {i:Nat} (hi:i<q.length):((nodeAt q i).1=5∨mg (nodeAt q i)=true→0≤(nodeAt q i).2.1∧(nodeAt q i).2.1.toNat<i)∧(mg (nodeAt q i)=true→0≤(nodeAt q i).2.2.1∧(nodeAt q i).2.2.1.toNat<i):=by
 have h1:=(abY h hi).1
 refine ⟨fun h2=>?_,fun h2=>aaC h1 (Ic.1 h2)⟩
 rcases h2 with h2|h2
 · exact aqx h1 (.inl h2)
 · exact aqx h1 (.inr (Ic.1 h2))
theorem aDU {q:List bY} (h:dn q=true) {i j p:Nat} (hi:i<q.length) (hj:j<q.length) (hne:i≠j) (hp:p<i) (hr:1≤refsOf p (nodeAt q i)):refsOf p (nodeAt q j)=0:=
 aCV (refsOf p) q ((abY h (by omega)).2 (by omega)) i j hi hj hne _ hr
theorem aCh {p:Nat} {n:bY} (h:refsOf p n=0) (h0:((n.1=5∨mg n=true)→0≤n.2.1)∧(mg n=true→0≤n.2.2.1)):(n.1=5∨mg n=true→n.2.1.toNat≠p)∧(mg n=true→n.2.2.1.toNat≠p):=by
 unfold refsOf at h
 refine ⟨fun h1 h2=>?_,fun h1 h2=>?_⟩
 · have h3:=h0.1 h1
   have h4:((mg n||n.1==5)&&n.2.1==(p:Int))=true:=by
    have:(mg n||n.1==5)=true:=by rcases h1 with h1|h1<;>simp [h1]
    rw [this];simp;omega
   rw [h4] at h
   simp at h
 · have h3:=h0.2 h1
   have h4:(mg n&&n.2.2.1==(p:Int))=true:=by
    rw [h1];simp;omega
   rw [h4] at h
   simp at h
theorem aqy {p:Nat} {n:bY} (h:n.1=5∨mg n=true) (h0:0≤n.2.1) (e:n.2.1.toNat=p):1≤refsOf p n:=by
 unfold refsOf
 have h4:((mg n||n.1==5)&&n.2.1==(p:Int))=true:=by
  have:(mg n||n.1==5)=true:=by rcases h with h1|h1<;>simp [h1]
  rw [this];simp;omega
 rw [h4];simp
theorem aBF {p:Nat} {n:bY} (h:mg n=true) (h0:0≤n.2.2.1) (e:n.2.2.1.toNat=p):1≤refsOf p n:=by
 unfold refsOf
 have h4:(mg n&&n.2.2.1==(p:Int))=true:=by rw [h];simp;omega
 rw [h4];simp
theorem ahD {l:List (Bool×Unit)} {k p:Nat} {x:Bool×Unit} (hk:k<l.length):(l.set k x).getD p (false,())=if k=p then x else l.getD p (false,()):=by
 rw [List.getD_eq_getElem?_getD,List.getElem?_set]
 by_cases h:k=p
 · subst h;simp [hk]
 · simp [h]
theorem aDV {q:List bY} (h:dn q=true) {i:Nat} (hi:i<q.length):
 ((nodeAt q i).1=5→LW q (nodeAt q i).2.1.toNat=true)∧(mg (nodeAt q i)=true→LW q (nodeAt q i).2.1.toNat=LW q i∧LW q (nodeAt q i).2.2.1.toNat=LW q i):=by
 have hn:negated q=kR q q.length (List.replicate q.length (false,())):=by unfold negated;rw [h];rfl
 obtain ⟨mid,hm1,hm2⟩:=aik q (q.length-(i+1)) (i+1) (List.replicate q.length (false,()))
 rw [show i+1+(q.length-(i+1))=q.length by omega,← hn] at hm2
 have hml:mid.length=q.length:=by rw [hm1];simp
 have hm3:negated q=kR q i (oD q i mid):=hm2
 obtain ⟨k1,k2⟩:=abX h hi
 have keep:∀ p,p<i→1≤refsOf p (nodeAt q i)→LW q p=((oD q i mid).getD p (false,())).1:=fun p hp hr=>by
  unfold LW
  rw [hm3,VJ i]
  intro j hj
  have hjl:j<q.length:=by omega
  obtain ⟨g1,g2⟩:=abX h hjl
  exact aCh (aDU h hi hjl (by omega) hp hr) ⟨fun z=>(g1 z).1,fun z=>(g2 z).1⟩
 have self:LW q i=(mid.getD i (false,())).1:=by
  unfold LW
  rw [hm2,VJ (i+1)]
  intro j hj
  obtain ⟨g1,g2⟩:=abX h (show j<q.length by omega)
  exact ⟨fun z=>by have:=(g1 z).2;omega,fun z=>by have:=(g2 z).2;omega⟩
 refine ⟨fun h5=>?_,fun h2=>?_⟩
 · obtain ⟨a,b⟩:=k1 (.inl h5)
   rw [keep _ b (aqy (.inl h5) a rfl)]
   unfold oD
   dsimp only
   rw [beq_iff_eq.2 h5]
   show ((mid.set _ (true,())).getD _ (false,())).1=true
   rw [ahD (by omega),if_pos rfl]
 · obtain ⟨a,b⟩:=k1 (.inr h2)
   obtain ⟨a',b'⟩:=k2 h2
   have h5:((nodeAt q i).1==5)=false:=by
    rcases Ic.1 h2 with e|e<;>rw [e]<;>rfl
   rw [keep _ b (aqy (.inr h2) a rfl),keep _ b' (aBF h2 a' rfl),self]
   unfold oD
   dsimp only
   rw [h5,h2]
   show (((mid.set _ ((mid.getD i (false,())).1,())).set _ ((mid.getD i (false,())).1,())).getD _ (false,())).1=_∧(((mid.set _ ((mid.getD i (false,())).1,())).set _ ((mid.getD i (false,())).1,())).getD _ (false,())).1=_
   rw [ahD (by rw [List.length_set];omega),ahD (by omega),ahD (by rw [List.length_set];omega),if_pos rfl,if_pos rfl]
   exact ⟨by split<;>rfl,rfl⟩
theorem aDW {q:List bY} (h:dn q=true):LW q (q.length-1)=false:=by
 have hn:negated q=kR q q.length (List.replicate q.length (false,())):=by unfold negated;rw [h];rfl
 have hl:=Q9 h
 unfold LW
 rw [hn,VJ q.length]
 · rw [List.getD_eq_getElem?_getD,List.getElem?_replicate];split<;>rfl
 · intro j hj
   obtain ⟨g1,g2⟩:=abX h hj
   exact ⟨fun z=>by have:=(g1 z).2;omega,fun z=>by have:=(g2 z).2;omega⟩
theorem aBG {q:List bY} (h:dn q=true) {i:Nat} (hi:i<q.length) (hd:lN (nodeAt q i)=true):(nodeAt q i).2.2.2.1∈fP q (LW q i):=by
 have hl:(negated q).length=q.length:=by unfold negated;rw [h];show (kR _ _ _).length=_;rw [Rh];simp
 unfold fP
 rw [List.mem_filterMap]
 refine ⟨i,List.mem_range.2 (by omega),?_⟩
 unfold LW
 rw [hd];simp
theorem aFJ {q:List bY} {f:aT} {X Y:BX} (h:dn q=true) (hp:∀ s∈fP q false,∀ x,X s x=true→Y s x=true) (hn:∀ s∈fP q true,∀ x,X s x=Y s x):
 ∀ a,a<q.length→(LW q a=false→val q f X a=true→val q f Y a=true)∧(LW q a=true→val q f X a=val q f Y a):=by
 intro a
 induction a using Nat.strongRecOn with
 |_ a ih=>
  intro ha
  obtain ⟨k1,k2⟩:=abX h ha
  obtain ⟨n1,n2⟩:=aDV h ha
  rw [YA q f X a,YA q f Y a]
  by_cases h5:(nodeAt q a).1=5
  · have hk:=k1 (.inl h5)
    have i1:=(ih _ hk.2 (by omega)).2 (n1 h5)
    rw [if_pos h5,if_pos h5,dif_pos hk.2,dif_pos hk.2,i1]
    exact ⟨fun _=>id,fun _=>rfl⟩
  rw [if_neg h5,if_neg h5]
  by_cases h6:(nodeAt q a).1=6
  · have h2:mg (nodeAt q a)=true:=Ic.2 (.inl h6)
    have hk:=k1 (.inr h2)
    have hk':=k2 h2
    have i1:=ih _ hk.2 (by omega)
    have i2:=ih _ hk'.2 (by omega)
    rw [(n2 h2).1] at i1
    rw [(n2 h2).2] at i2
    rw [if_pos h6,if_pos h6,dif_pos ⟨hk.2,hk'.2⟩,dif_pos ⟨hk.2,hk'.2⟩]
    refine ⟨fun hf hv=>?_,fun ht=>by rw [i1.2 ht,i2.2 ht]⟩
    rw [Bool.and_eq_true] at hv ⊢
    exact ⟨i1.1 hf hv.1,i2.1 hf hv.2⟩
  rw [if_neg h6,if_neg h6]
  by_cases h7:(nodeAt q a).1=7
  · have h2:mg (nodeAt q a)=true:=Ic.2 (.inr h7)
    have hk:=k1 (.inr h2)
    have hk':=k2 h2
    have i1:=ih _ hk.2 (by omega)
    have i2:=ih _ hk'.2 (by omega)
    rw [(n2 h2).1] at i1
    rw [(n2 h2).2] at i2
    rw [if_pos h7,if_pos h7,dif_pos ⟨hk.2,hk'.2⟩,dif_pos ⟨hk.2,hk'.2⟩]
    refine ⟨fun hf hv=>?_,fun ht=>by rw [i1.2 ht,i2.2 ht]⟩
    rw [Bool.or_eq_true] at hv ⊢
    exact hv.imp (i1.1 hf) (i2.1 hf)
  rw [if_neg h7,if_neg h7]
  by_cases h8:(nodeAt q a).1=8
  · have hm:=aBG h ha (by unfold lN;simp [h8])
    unfold jV
    simp only [h8]
    refine ⟨fun hf hv=>?_,fun ht=>?_⟩
    · rw [hf] at hm;exact hp _ hm _ hv
    · rw [ht] at hm;exact hn _ hm _
  by_cases h9:(nodeAt q a).1=9
  · have hm:=aBG h ha (by unfold lN;simp [h9])
    unfold jV
    simp only [h9]
    refine ⟨fun hf hv=>?_,fun ht=>?_⟩
    · rw [hf] at hm
      have hv:(!((f.2.2.2.1==0))&&X (nodeAt q a).2.2.2.1 f.2.2.2.1)=true:=hv
      rw [Bool.and_eq_true] at hv
      show (!((f.2.2.2.1==0))&&Y (nodeAt q a).2.2.2.1 f.2.2.2.1)=true
      rw [Bool.and_eq_true]
      exact ⟨hv.1,hp _ hm _ hv.2⟩
    · rw [ht] at hm
      show (!((f.2.2.2.1==0))&&X (nodeAt q a).2.2.2.1 f.2.2.2.1)=(!((f.2.2.2.1==0))&&Y (nodeAt q a).2.2.2.1 f.2.2.2.1)
      rw [hn _ hm]
  · have:jV (nodeAt q a) f X=jV (nodeAt q a) f Y:=by
     unfold jV
     rw [beq_eq_false_iff_ne.2 h8,beq_eq_false_iff_ne.2 h9];rfl
    rw [this]
    exact ⟨fun _=>id,fun _=>rfl⟩
theorem aci {q:List bY} {f:aT} {X Y:BX} (hp:∀ s∈fP q false,∀ x,X s x=true→Y s x=true) (hn:∀ s∈fP q true,∀ x,X s x=Y s x) (hm:jC q f X=true):jC q f Y=true:=by
 unfold jC at hm ⊢
 rw [Bool.and_eq_true] at hm ⊢
 have hl:=Q9 hm.1
 exact ⟨hm.1,(aFJ hm.1 hp hn _ (by omega)).1 (aDW hm.1) hm.2⟩
theorem ayb {fs:List aT} {q:List bY} {X:BX} {x:Int}:(x,())∈sel fs q X↔∃ f∈fs,f.1=x∧jC q f X=true:=by
 unfold sel
 rw [List.mem_map]
 constructor
 · rintro ⟨f,hf,e⟩
   rw [List.mem_filter] at hf
   exact ⟨f,hf.1,congrArg Prod.fst e,hf.2⟩
 · rintro ⟨f,hf,rfl,hm⟩
   exact ⟨f,List.mem_filter.2 ⟨hf,hm⟩,rfl⟩
theorem amS {fs:List aT} {q:List bY} {X Y:BX} (h:∀ b,∀ s∈fP q b,∀ x,X s x=Y s x):sel fs q X=sel fs q Y:=by
 unfold sel
 congr 1
 apply List.filter_congr
 intro f _
 rw [Bool.eq_iff_iff]
 exact ⟨aci (fun s hs x hx=>by rw [← h false s hs x];exact hx) (fun s hs x=>h true s hs x),aci (fun s hs x hx=>by rw [h false s hs x];exact hx) (fun s hs x=>(h true s hs x).symm)⟩
def adB (fs:List aT) (d:List aY):Sys Bytes Int where
 T:=fun s X x=>∃ i,i<d.length∧(fO d i).1=s∧(x,())∈sel fs (fO d i).2.1 X
 pos:=fun s t=>∃ i,i<d.length∧(fO d i).1=s∧t∈fP (fO d i).2.1 false
 neg:=fun s t=>∃ i,i<d.length∧(fO d i).1=s∧t∈fP (fO d i).2.1 true
 mono:=fun s X Y hp hn x ⟨i,hi,e,hx⟩=>⟨i,hi,e,by
  obtain ⟨f,hf,e2,hm⟩:=ayb.1 hx
  exact ayb.2 ⟨f,hf,e2,aci (fun t ht=>hp t ⟨i,hi,e,ht⟩) (fun t ht=>hn t ⟨i,hi,e,ht⟩) hm⟩⟩
end Sp
namespace Go.Fw
open Go
end Go.Fw
namespace Go.Fw
open Go
theorem dW {p:Prop} [Decidable p] {A B:Prop} (h:p) (a:A):cond (decide p) A B:=by rw [decide_eq_true h];exact a
theorem dX {p:Prop} [Decidable p] {A B:Prop} (h:¬ p) (b:B):cond (decide p) A B:=by rw [decide_eq_false h];exact b
theorem ku {B:((Int×Unit)×Unit→Prop)→((Int×Unit)×Unit→Nat)→(Int×Unit)×Unit→Prop} (len:Nat) (hlen:len≤9223372036854775807) (J:Nat→Prop) (h0:J 0)
 (hstep:∀ I μ (n:Nat),n<len→J n→(J (n+1)→I ((IntKind.i64.wrap ((n:Int)+1),()),())∧μ ((IntKind.i64.wrap ((n:Int)+1),()),())<μ (((n:Int),()),()))→B I μ (((n:Int),()),()))
 (hend:∀ I μ,J len→B I μ (((len:Int),()),())):∃ I,∃ μ,I (((0:Int),()),())∧∀ y,I y→B I μ y:=by
 refine ⟨fun y=>∃ n:Nat,y.1.1=n∧n≤len∧J n,fun y=>((len:Int)-y.1.1).toNat,⟨0,rfl,Nat.zero_le _,h0⟩,?_⟩
 rintro ⟨⟨_,⟨⟩⟩,⟨⟩⟩ ⟨n,rfl,hn,hJ⟩
 rcases Nat.lt_or_ge n len with h|h
 · refine hstep _ _ n h hJ fun hJ'=>?_
   have e:IntKind.i64.wrap ((n:Int)+1)=((n+1:Nat):Int):=iL _ (by omega)
   rw [e]
   exact ⟨⟨n+1,rfl,h,hJ'⟩,by show ((len:Int)-(n+1:Nat)).toNat<((len:Int)-n).toNat;omega⟩
 · have:n=len:=by omega
   subst this
   exact hend _ _ hJ
theorem eX {Y S:Type} (mk:Int→S→Y) (idx:Y→Int) (hidx:∀ i s,idx (mk i s)=i) {B:(Y→Prop)→(Y→Nat)→Y→Prop} (len:Nat) (hlen:len≤9223372036854775807) (J:Nat→S→Prop) {s0:S} (h0:J 0 s0)
 (hstep:∀ I μ (n:Nat) (s:S),n<len→J n s→(∀ s',J (n+1) s'→I (mk (IntKind.i64.wrap ((n:Int)+1)) s')∧μ (mk (IntKind.i64.wrap ((n:Int)+1)) s')<μ (mk n s))→B I μ (mk n s))
 (hend:∀ I μ s,J len s→B I μ (mk len s)):∃ I,∃ μ,I (mk 0 s0)∧∀ y,I y→B I μ y:=by
 refine ⟨fun y=>∃ (n:Nat) (s:S),y=mk n s∧n≤len∧J n s,fun y=>((len:Int)-idx y).toNat,⟨0,s0,rfl,Nat.zero_le _,h0⟩,?_⟩
 rintro _ ⟨n,s,rfl,hn,hJ⟩
 rcases Nat.lt_or_ge n len with h|h
 · refine hstep _ _ n s h hJ fun s' hJ'=>?_
   have e:IntKind.i64.wrap ((n:Int)+1)=((n+1:Nat):Int):=iL _ (by omega)
   rw [e]
   refine ⟨⟨n+1,s',rfl,h,hJ'⟩,?_⟩
   show ((len:Int)-idx (mk (n+1:Nat) s')).toNat<((len:Int)-idx (mk n s)).toNat
   rw [hidx,hidx]
   omega
 · have:n=len:=by omega
   subst this
   exact hend _ _ s hJ
theorem ML {len:Nat} {f:Nat→Bool} {n:Nat} (hn:n<len) (h:f n=false):Sp.l9 len f=false:=by
 unfold Sp.l9
 rw [List.all_eq_false]
 exact ⟨n,List.mem_range.2 hn,by rw [h];simp⟩
theorem uQ {len:Nat} {f:Nat→Bool} (h:∀ i,i<len→f i=true):Sp.l9 len f=true:=by
 unfold Sp.l9
 rw [List.all_eq_true]
 exact fun i hi=>h i (List.mem_range.1 hi)
theorem aqu {len:Nat} {f:Nat→Bool}:Sp.l9 len f=true↔∀ i,i<len→f i=true:=by
 unfold Sp.l9
 rw [List.all_eq_true]
 exact ⟨fun h i hi=>h i (List.mem_range.2 hi),fun h i hi=>h i (List.mem_range.1 hi)⟩
theorem gI {n:Nat} {f:Nat→Bool} (h:∀ i,i<n→f i=true) (hn:f n=true):∀ i,i<n+1→f i=true:=fun i hi=>by
 rcases Nat.lt_or_ge i n with h'|h'
 · exact h i h'
 · have:i=n:=by omega
   rw [this];exact hn
theorem jG {b:Bool} (h:(!b)=true):b=false:=by cases b<;>first|rfl|cases h
theorem gQ {b:Bool} (h:(!b)=false):b=true:=by cases b<;>first|rfl|cases h
theorem ji {p:Prop} [Decidable p] (h:decide p=true):p:=of_decide_eq_true h
theorem jl {p:Prop} [Decidable p] (h:decide p=false):¬ p:=of_decide_eq_false h
theorem ES {n:Nat} (h:0<n) (hn:n≤9223372036854775807):IntKind.i64.wrap ((n:Int)-1)=((n-1:Nat):Int):=by rw [iL _ (by omega)];omega
theorem ab1 {α:Type} {d:α} {a b:List α} (hl:a.length=b.length) (h:∀ i,i<a.length→a.getD i d=b.getD i d):a=b:=by
 refine List.ext_getElem hl fun i h1 h2=>?_
 have:=h i h1
 rw [List.getD_eq_getElem?_getD,List.getD_eq_getElem?_getD,List.getElem?_eq_getElem h1,List.getElem?_eq_getElem h2] at this
 simpa using this
theorem aft {α β:Type} (e:α→α→Bool) (he:∀ x y,e x y=false↔x=y) (d:α) (a b:List α) (t:β) (hlen:a.length≤9223372036854775807) (hl:a.length=b.length) {K:Bool×Unit→Prop} (hF:a≠b→K (false,())) (hT:a=b→K (true,())):
 ∃ (I:(Int×Unit)×Unit→Prop),∃ (μ:(Int×Unit)×Unit→Nat),I (((0:Int),()),())∧∀ (y:(Int×Unit)×Unit),I y→
   bif decide (y.fst.fst<(a.length:Int)) then
    ((0:Int)≤y.fst.fst∧y.fst.fst<(a.length:Int))∧((0:Int)≤y.fst.fst∧y.fst.fst<(b.length:Int))∧
      (bif e (a.getD (Int.toNat y.fst.fst) d) (b.getD (Int.toNat y.fst.fst) d) then K (false,())
      else t=t∧I ((IntKind.i64.wrap (y.fst.fst+(1:Int)),()),())∧μ ((IntKind.i64.wrap (y.fst.fst+(1:Int)),()),())<μ y)
   else K (true,()):=by
 refine ku a.length hlen (fun n=>∀ i,i<n→a.getD i d=b.getD i d) (fun i hi=>by omega) (fun I μ n hn hJ next=>?_) fun I μ hJ=>(by dsimp only;exact dX (by omega) (hT (ab1 hl hJ)))
 dsimp only
 refine dW (by omega) ⟨⟨by omega,by omega⟩,⟨by omega,by omega⟩,af (fun h=>hF fun h'=>?_) fun h=>⟨rfl,next fun i hi=>?_⟩⟩
 · subst h'
   have:=(he (a.getD n d) (a.getD n d)).2 rfl
   have h:e (a.getD n d) (a.getD n d)=true:=h
   rw [this] at h;cases h
 · rcases Nat.lt_or_ge i n with h'|h'
   · exact hJ i h'
   · have:i=n:=by omega
     rw [this];exact (he _ _).1 h
theorem ar0 {α β:Type} (e:α→α→Bool) (he:∀ x y,e x y=false↔x=y) (d:α) (a b:List α) (t:β) (hlen:a.length≤9223372036854775807) (hl:a.length=b.length) {K:Bool×Unit→Prop} (hF:a≠b→K (false,())) (hT:a=b→K (true,())):
 ∃ (I:(Int×Unit)×Unit→Prop),∃ (μ:(Int×Unit)×Unit→Nat),I (((0:Int),()),())∧∀ (y:(Int×Unit)×Unit),I y→
   bif decide (y.fst.fst<(a.length:Int)) then
    ((0:Int)≤y.fst.fst∧y.fst.fst<(a.length:Int))∧((0:Int)≤y.fst.fst∧y.fst.fst<(b.length:Int))∧True∧
      (bif e (a.getD (Int.toNat y.fst.fst) d) (b.getD (Int.toNat y.fst.fst) d) then K (false,())
      else t=t∧I ((IntKind.i64.wrap (y.fst.fst+(1:Int)),()),())∧μ ((IntKind.i64.wrap (y.fst.fst+(1:Int)),()),())<μ y)
   else K (true,()):=by
 refine ku a.length hlen (fun n=>∀ i,i<n→a.getD i d=b.getD i d) (fun i hi=>by omega) (fun I μ n hn hJ next=>?_) fun I μ hJ=>(by dsimp only;exact dX (by omega) (hT (ab1 hl hJ)))
 dsimp only
 refine dW (by omega) ⟨⟨by omega,by omega⟩,⟨by omega,by omega⟩,trivial,af (fun h=>hF fun h'=>?_) fun h=>⟨rfl,next fun i hi=>?_⟩⟩
 · subst h'
   have:=(he (a.getD n d) (a.getD n d)).2 rfl
   have h:e (a.getD n d) (a.getD n d)=true:=h
   rw [this] at h;cases h
 · rcases Nat.lt_or_ge i n with h'|h'
   · exact hJ i h'
   · have:i=n:=by omega
     rw [this];exact (he _ _).1 h
end Go.Fw
namespace Sp
open Go Go.Fw
theorem alY {name:Bytes}:∀ (s:List iZ) (n:Nat),n<s.length→(∀ i,i<n→(s.getD i ([],0,())).1≠name)→(s.getD n ([],0,())).1=name→kindOf s name=(s.getD n ([],0,())).2.1
 |[],n,h,_,_=>by simp at h
 |f::r,0,_,_,he=>by
  have he:f.1=name:=he
  show (bif decide (f.1=name) then f.2.1 else kindOf r name)=f.2.1
  rw [decide_eq_true he];rfl
 |f::r,n+1,h,hne,he=>by
  have h0:f.1≠name:=hne 0 (by omega)
  show (bif decide (f.1=name) then f.2.1 else kindOf r name)=_
  rw [decide_eq_false h0]
  exact alY r n (by simpa using h) (fun i hi=>hne (i+1) (by omega)) he
theorem adZ {name:Bytes}:∀ (s:List iZ),(∀ i,i<s.length→(s.getD i ([],0,())).1≠name)→kindOf s name=0
 |[],_=>rfl
 |f::r,hne=>by
  have h0:f.1≠name:=hne 0 (by simp)
  show (bif decide (f.1=name) then f.2.1 else kindOf r name)=_
  rw [decide_eq_false h0]
  exact adZ r fun i hi=>hne (i+1) (by simp;omega)
theorem amT {id:Int}:∀ (s:List aT) (k:Int) (n:Nat),n<s.length→(∀ i,i<n→(fileAt s i).1≠id)→(fileAt s n).1=id→KA k s id=k+n
 |[],_,n,h,_,_=>by simp at h
 |f::r,k,0,_,_,he=>by
  have he:f.1=id:=he
  show (bif decide (f.1=id) then k else KA (k+1) r id)=_
  rw [decide_eq_true he];simp
 |f::r,k,n+1,h,hne,he=>by
  have h0:f.1≠id:=hne 0 (by omega)
  show (bif decide (f.1=id) then k else KA (k+1) r id)=_
  rw [decide_eq_false h0]
  show KA (k+1) r id=_
  rw [amT r (k+1) n (by simpa using h) (fun i hi=>hne (i+1) (by omega)) he]
  omega
theorem afI {id:Int}:∀ (s:List aT) (k:Int),(∀ i,i<s.length→(fileAt s i).1≠id)→KA k s id=-1
 |[],_,_=>rfl
 |f::r,k,hne=>by
  have h0:f.1≠id:=hne 0 (by simp)
  show (bif decide (f.1=id) then k else KA (k+1) r id)=_
  rw [decide_eq_false h0]
  exact afI r (k+1) fun i hi=>hne (i+1) (by simp;omega)
theorem Xr {id:Int} {s:List aT} {n:Nat} (h:n<s.length) (hne:∀ i,i<n→(fileAt s i).1≠id) (he:(fileAt s n).1=id):place s id=n:=by
 unfold place
 rw [amT s 0 n h hne he];omega
theorem agT {id:Int} {s:List aT} (hne:∀ i,i<s.length→(fileAt s i).1≠id):place s id=-1:=afI s 0 hne
theorem Ae (s:List aT) (id:Int):(place s id=-1∧∀ i,i<s.length→(fileAt s i).1≠id)∨∃ n,n<s.length∧place s id=n∧(fileAt s n).1=id∧∀ i,i<n→(fileAt s i).1≠id:=by
 by_cases h:∃ n,n<s.length∧(fileAt s n).1=id
 · obtain ⟨n,h1,h2,h3⟩:=(least s.length (p:=fun n=>(fileAt s n).1=id) h)
   exact .inr ⟨n,h1,Xr h1 (fun i hi=>h3 i hi) h2,h2,fun i hi=>h3 i hi⟩
 · have hne:∀ i,i<s.length→(fileAt s i).1≠id:=fun i hi e=>h ⟨i,hi,e⟩
   exact .inl ⟨agT hne,hne⟩
theorem aqn {s:List iZ} {n:Nat} (h:n<s.length) (hn:pW s n=false):ig s=false:=by
 unfold ig;rw [ML h hn];rfl
theorem aDX {fs:List iZ} {s:List gZ} {n:Nat} (h:n<s.length) (hn:nI fs s n=false):mW fs s=false:=ML h hn
theorem azo {fs:List iZ} {f:aT} {n:Nat} (h:n<f.2.2.2.2.1.length) (hn:nI fs f.2.2.2.2.1 n=false):dD fs f=false:=by
 unfold dD;rw [aDX h hn];rfl
theorem auV {s:eG} {n:Nat} (h:n<s.2.1.length) (hn:oP s n=false):aH s=false:=by
 unfold aH;rw [ML h hn];rfl
theorem qX {s:eG} {i:Nat}:oP s i=true↔dD s.1 (fileAt s.2.1 i)=true∧(fileAt s.2.1 i).1<s.2.2.1∧(0<i→(fileAt s.2.1 (i-1)).1<(fileAt s.2.1 i).1):=by
 unfold oP
 rw [Bool.and_eq_true,Bool.and_eq_true,decide_eq_true_eq,and_assoc]
 refine and_congr_right fun _=>and_congr_right fun _=>?_
 by_cases h:0<i
 · simp [h]
 · simp [h]
theorem rD {s:eG}:aH s=true↔(∀ i,i<s.2.1.length→oP s i=true)∧ig s.1=true∧s.2.1.length≤12∧1≤s.2.2.1∧s.2.2.1≤61:=by
 unfold aH
 rw [Bool.and_eq_true,Bool.and_eq_true,Bool.and_eq_true,Bool.and_eq_true,decide_eq_true_eq,decide_eq_true_eq,decide_eq_true_eq,aqu]
 constructor
 · rintro ⟨⟨⟨h1,h2⟩,h3⟩,h4,h5⟩;exact ⟨h1,h2,by omega,h4,h5⟩
 · rintro ⟨h1,h2,h3,h4,h5⟩;exact ⟨⟨⟨h1,h2⟩,by omega⟩,h4,h5⟩
theorem aE4 {fs:List iZ} {f:aT} (h:dD fs f=true):1≤f.1∧f.1≤60:=by
 unfold dD at h
 simp only [Bool.and_eq_true,decide_eq_true_eq] at h
 exact h.1.1.2
theorem ael {fs:List aT} {g:aT} {i:Nat} (h:i<fs.length):fileAt (fs++[g]) i=fileAt fs i:=by
 unfold fileAt
 rw [List.getD_eq_getElem?_getD,List.getElem?_append_left h,← List.getD_eq_getElem?_getD]
theorem aCi {fs:List aT} {g:aT}:fileAt (fs++[g]) fs.length=g:=by
 unfold fileAt
 rw [List.getD_eq_getElem?_getD,List.getElem?_append_right (Nat.le_refl _)];simp
theorem aBH {s:eG} {g:aT} (h:aH s=true) (hl:s.2.1.length<12) (hg:dD s.1 g=true) (hid:g.1=s.2.2.1):aH (s.1,s.2.1++[g],s.2.2.1+1,())=true:=by
 obtain ⟨h1,h2,h3,h4,h5⟩:=rD.1 h
 have hg1:=aE4 hg
 refine rD.2 ⟨fun i hi=>?_,h2,by show (s.2.1++[g]).length≤12;simp;omega,by show 1≤s.2.2.1+1;omega,by show s.2.2.1+1≤61;omega⟩
 have hi:i<(s.2.1++[g]).length:=hi
 rw [List.length_append,List.length_cons,List.length_nil] at hi
 refine qX.2 ?_
 show dD s.1 (fileAt (s.2.1++[g]) i)=true∧(fileAt (s.2.1++[g]) i).1<s.2.2.1+1∧(0<i→(fileAt (s.2.1++[g]) (i-1)).1<(fileAt (s.2.1++[g]) i).1)
 rcases Nat.lt_or_ge i s.2.1.length with hlt|hge
 · obtain ⟨k1,k2,k3⟩:=qX.1 (h1 i hlt)
   rw [ael hlt]
   refine ⟨k1,by omega,fun h0=>?_⟩
   rw [ael (by omega)]
   exact k3 h0
 · have e:i=s.2.1.length:=by omega
   subst e
   rw [aCi]
   refine ⟨hg,by omega,fun h0=>?_⟩
   rw [ael (by omega)]
   have:=(qX.1 (h1 (s.2.1.length-1) (by omega))).2.1
   omega
theorem vM (s:eG) (f:aT):(fD s f=(s,0,false)∧¬ (aH s=true∧s.2.1.length<12∧dD s.1 (s.2.2.1,f.2)=true))∨
 (aH s=true∧s.2.1.length<12∧dD s.1 (s.2.2.1,f.2)=true∧fD s f=((s.1,s.2.1++[(s.2.2.1,f.2)],s.2.2.1+1,()),s.2.2.1,true)):=by
 by_cases h:aH s=true∧s.2.1.length<12∧dD s.1 (s.2.2.1,f.2)=true
 · right
   refine ⟨h.1,h.2.1,h.2.2,?_⟩
   unfold fD
   dsimp only
   rw [h.1,h.2.2,decide_eq_true (by omega)];rfl
 · left
   refine ⟨?_,h⟩
   have:(aH s&&decide ((s.2.1.length:Int)<12)&&dD s.1 (s.2.2.1,f.2))=false:=by
    cases hb:(aH s&&decide ((s.2.1.length:Int)<12)&&dD s.1 (s.2.2.1,f.2)) with
    |false=>rfl
    |true=>
     simp only [Bool.and_eq_true,decide_eq_true_eq] at hb
     exact (h ⟨hb.1.1,by omega,hb.2⟩).elim
   unfold fD
   dsimp only
   rw [this];rfl
theorem axY {s:eG} (f:aT) (h:aH s=true):aH (fD s f).1=true:=by
 rcases vM s f with ⟨e,_⟩|⟨h1,h2,h3,e⟩
 · rw [e];exact h
 · rw [e];exact aBH h1 h2 h3 rfl
theorem az1 {s:eG} {f:aT} (h:bC s) (hf:bH f):bC (fD s f).1:=by
 rcases vM s f with ⟨e,_⟩|⟨h1,h2,h3,e⟩
 · rw [e];exact h
 · rw [e]
   refine ⟨h.1,by show (s.2.1++[(s.2.2.1,f.2)]).length≤1000;simp;omega,fun g hg=>?_⟩
   have hg:g∈s.2.1++[(s.2.2.1,f.2)]:=hg
   rcases List.mem_append.1 hg with hg|hg
   · exact h.2.2 g hg
   · have:g=(s.2.2.1,f.2):=by simpa using hg
     subst this;exact hf
theorem FD (s:eG) (id:Int):(gJ s id=(s,false)∧¬ (aH s=true∧0≤place s.2.1 id))∨
 ∃ n,n<s.2.1.length∧place s.2.1 id=n∧aH s=true∧gJ s id=((s.1,s.2.1.eraseIdx n,s.2.2.1,()),true):=by
 rcases Ae s.2.1 id with ⟨h,_⟩|⟨n,hn,h,_,_⟩
 · left
   refine ⟨?_,fun h'=>by omega⟩
   unfold gJ
   rw [h];simp
 · cases ho:aH s with
   |false=>
    left
    refine ⟨?_,fun h'=>by cases h'.1⟩
    unfold gJ
    rw [ho];rfl
   |true=>
    right
    refine ⟨n,hn,h,rfl,?_⟩
    unfold gJ
    rw [ho,h,decide_eq_false (by omega),Int.toNat_natCast];rfl
theorem amU {fs:List aT} {n i:Nat}:fileAt (fs.eraseIdx n) i=if i<n then fileAt fs i else fileAt fs (i+1):=by
 unfold fileAt
 rw [List.getD_eq_getElem?_getD,List.getElem?_eraseIdx]
 split<;>rw [List.getD_eq_getElem?_getD]
theorem az5 {s:eG} {n:Nat} (h:aH s=true) (hn:n<s.2.1.length):aH (s.1,s.2.1.eraseIdx n,s.2.2.1,())=true:=by
 obtain ⟨h1,h2,h3,h4,h5⟩:=rD.1 h
 have hlen:(s.2.1.eraseIdx n).length=s.2.1.length-1:=List.length_eraseIdx_of_lt hn
 refine rD.2 ⟨fun i hi=>?_,h2,by show (s.2.1.eraseIdx n).length≤12;omega,h4,h5⟩
 have hi:i<(s.2.1.eraseIdx n).length:=hi
 refine qX.2 ?_
 show dD s.1 (fileAt (s.2.1.eraseIdx n) i)=true∧(fileAt (s.2.1.eraseIdx n) i).1<s.2.2.1∧(0<i→(fileAt (s.2.1.eraseIdx n) (i-1)).1<(fileAt (s.2.1.eraseIdx n) i).1)
 rw [amU,amU]
 rcases Nat.lt_or_ge i n with hlt|hge
 · rw [if_pos hlt]
   obtain ⟨k1,k2,k3⟩:=qX.1 (h1 i (by omega))
   refine ⟨k1,k2,fun h0=>?_⟩
   rw [if_pos (by omega)]
   exact k3 h0
 · rw [if_neg (by omega)]
   obtain ⟨k1,k2,k3⟩:=qX.1 (h1 (i+1) (by omega))
   refine ⟨k1,k2,fun h0=>?_⟩
   have k3:=k3 (by omega)
   rw [Nat.add_sub_cancel] at k3
   split
   · have:=(qX.1 (h1 i (by omega))).2.2 h0
     omega
   · rw [show i-1+1=i by omega]
     exact k3
theorem axZ {s:eG} (id:Int) (h:aH s=true):aH (gJ s id).1=true:=by
 rcases FD s id with ⟨e,_⟩|⟨n,hn,_,ho,e⟩
 · rw [e];exact h
 · rw [e];exact az5 ho hn
theorem az2 {s:eG} (id:Int) (h:bC s):bC (gJ s id).1:=by
 rcases FD s id with ⟨e,_⟩|⟨n,hn,_,ho,e⟩
 · rw [e];exact h
 · rw [e]
   refine ⟨h.1,?_,fun g hg=>h.2.2 g (List.mem_of_mem_eraseIdx hg)⟩
   show (s.2.1.eraseIdx n).length≤1000
   have:=h.2.1
   rw [List.length_eraseIdx_of_lt hn];omega
theorem pX (s:eG) (f:aT):(aW s f=(s,false)∧¬ (aH s=true∧0≤place s.2.1 f.1∧dD s.1 f=true))∨
 ∃ n,n<s.2.1.length∧place s.2.1 f.1=n∧aH s=true∧dD s.1 f=true∧aW s f=((s.1,s.2.1.set n f,s.2.2.1,()),true):=by
 rcases Ae s.2.1 f.1 with ⟨h,_⟩|⟨n,hn,h,_,_⟩
 · left
   refine ⟨?_,fun h'=>by omega⟩
   unfold aW
   rw [h];simp
 · cases ho:aH s with
   |false=>
    left
    refine ⟨?_,fun h'=>by cases h'.1⟩
    unfold aW
    rw [ho];rfl
   |true=>
    cases hf:dD s.1 f with
    |false=>
     left
     refine ⟨?_,fun h'=>by cases h'.2.2⟩
     unfold aW
     rw [hf,Bool.and_false];rfl
    |true=>
     right
     refine ⟨n,hn,h,rfl,rfl,?_⟩
     unfold aW
     rw [ho,hf,h,decide_eq_false (by omega),Int.toNat_natCast];rfl
theorem afD {s:eG} {f:aT} (h:bC s) (hf:bH f):bC (aW s f).1:=by
 rcases pX s f with ⟨e,_⟩|⟨n,hn,_,ho,_,e⟩
 · rw [e];exact h
 · rw [e]
   refine ⟨h.1,by show (s.2.1.set n f).length≤1000;rw [List.length_set];exact h.2.1,fun g hg=>?_⟩
   rcases List.mem_or_eq_of_mem_set hg with hg|rfl
   · exact h.2.2 g hg
   · exact hf
theorem avY {s:List aT} {f:aT} (h:f∈s):∃ i,i<s.length∧fileAt s i=f:=by
 obtain ⟨i,hi,rfl⟩:=List.getElem_of_mem h
 refine ⟨i,hi,?_⟩
 unfold fileAt
 rw [List.getD_eq_getElem?_getD,List.getElem?_eq_getElem hi];rfl
theorem aBI {s:eG} (h:aH s=true):∀ (j i:Nat),i<j→j<s.2.1.length→(fileAt s.2.1 i).1<(fileAt s.2.1 j).1
 |0,i,hi,_=>by omega
 |j+1,i,hi,hj=>by
  have h1:=(qX.1 ((rD.1 h).1 (j+1) hj)).2.2 (by omega)
  rw [Nat.add_sub_cancel] at h1
  rcases Nat.lt_or_ge i j with h2|h2
  · have:=aBI h j i h2 (by omega)
    omega
  · have:i=j:=by omega
    rw [this];exact h1
theorem aCP {s:eG} (h:aH s=true) {f g:aT} (hf:f∈s.2.1) (hg:g∈s.2.1) (e:f.1=g.1):f=g:=by
 obtain ⟨i,hi,rfl⟩:=avY hf
 obtain ⟨j,hj,rfl⟩:=avY hg
 rcases Nat.lt_trichotomy i j with h1|h1|h1
 · have:=aBI h j i h1 hj;omega
 · rw [h1]
 · have:=aBI h i j h1 hi;omega
theorem abT {α:Type} {p:α→Bool} {d:α}:∀ (l:List α) (n:Nat),n≤l.length→(∀ i,i<n→p (l.getD i d)=true)→(n<l.length→p (l.getD n d)=false)→l.takeWhile p=l.take n∧l.dropWhile p=l.drop n
 |[],n,h,_,_=>by simp
 |x::r,0,_,_,h=>by
  have h:p x=false:=h (by simp)
  constructor<;>simp [h]
 |x::r,n+1,hn,h1,h2=>by
  have h0:p x=true:=h1 0 (by omega)
  have:=abT r n (by simpa using hn) (fun i hi=>h1 (i+1) (by omega)) fun hlt=>h2 (by simpa using hlt)
  constructor<;>simp [h0,this.1,this.2]
theorem avZ {fs:List aT} {n i:Nat} {f:aT} (hn:n<fs.length):fileAt (fs.set n f) i=if n=i then f else fileAt fs i:=by
 unfold fileAt
 rw [List.getD_eq_getElem?_getD,List.getElem?_set,List.getD_eq_getElem?_getD]
 split
 · rfl
 · rfl
theorem aCj {s:eG} {n:Nat} {f:aT} (h:aH s=true) (hn:n<s.2.1.length) (hf:dD s.1 f=true) (he:(fileAt s.2.1 n).1=f.1):aH (s.1,s.2.1.set n f,s.2.2.1,())=true:=by
 obtain ⟨h1,h2,h3,h4,h5⟩:=rD.1 h
 have hid:∀ i,(fileAt (s.2.1.set n f) i).1=(fileAt s.2.1 i).1:=fun i=>by
  rw [avZ hn]
  split
  · rename_i e;rw [← e,he]
  · rfl
 refine rD.2 ⟨fun i hi=>?_,h2,by show (s.2.1.set n f).length≤12;rw [List.length_set];exact h3,h4,h5⟩
 have hi:i<(s.2.1.set n f).length:=hi
 rw [List.length_set] at hi
 obtain ⟨k1,k2,k3⟩:=qX.1 (h1 i hi)
 refine qX.2 ?_
 show dD s.1 (fileAt (s.2.1.set n f) i)=true∧(fileAt (s.2.1.set n f) i).1<s.2.2.1∧(0<i→(fileAt (s.2.1.set n f) (i-1)).1<(fileAt (s.2.1.set n f) i).1)
 rw [hid,hid]
 refine ⟨?_,k2,k3⟩
 rw [avZ hn]
 split
 · exact hf
 · exact k1
theorem ady {s:eG} (f:aT) (h:aH s=true):aH (aW s f).1=true:=by
 rcases pX s f with ⟨e,_⟩|⟨n,hn,hp,ho,hf,e⟩
 · rw [e];exact h
 · rw [e]
   refine aCj ho hn hf ?_
   rcases Ae s.2.1 f.1 with ⟨h',_⟩|⟨m,hm,h',h2,_⟩
   · omega
   · rw [← h2,show n=m by omega]
end Sp
namespace Sp
open Go Go.Fw
theorem aqz {α:Type} {p:α→Bool} {d:α}:∀ (s:List α) (k:Int) (n:Nat),n<s.length→(∀ i,i<n→p (s.getD i d)=false)→p (s.getD n d)=true→O0 p k s=k+n
 |[],_,n,h,_,_=>by simp at h
 |f::r,k,0,_,_,he=>by
  have he:p f=true:=he
  show (bif p f then k else O0 p (k+1) r)=_
  rw [he];simp
 |f::r,k,n+1,h,hne,he=>by
  have h0:p f=false:=hne 0 (by omega)
  show (bif p f then k else O0 p (k+1) r)=_
  rw [h0]
  show O0 p (k+1) r=_
  rw [aqz r (k+1) n (by simpa using h) (fun i hi=>hne (i+1) (by omega)) he]
  omega
theorem ail {α:Type} {p:α→Bool} {d:α}:∀ (s:List α) (k:Int),(∀ i,i<s.length→p (s.getD i d)=false)→O0 p k s=-1
 |[],_,_=>rfl
 |f::r,k,hne=>by
  have h0:p f=false:=hne 0 (by simp)
  show (bif p f then k else O0 p (k+1) r)=_
  rw [h0]
  exact ail r (k+1) fun i hi=>hne (i+1) (by simp;omega)
theorem azy {α:Type} {p:α→Bool} {d:α} {s:List α} {n:Nat} (h:n<s.length) (hne:∀ i,i<n→p (s.getD i d)=false) (he:p (s.getD n d)=true):findAt p s=n:=by
 unfold findAt;rw [aqz s 0 n h hne he];omega
theorem aqA {α:Type} {p:α→Bool} {d:α} {s:List α} (hne:∀ i,i<s.length→p (s.getD i d)=false):findAt p s=-1:=ail s 0 hne
theorem amV {α:Type} (p:α→Bool) (d:α) (s:List α):(findAt p s=-1∧∀ i,i<s.length→p (s.getD i d)=false)∨∃ n,n<s.length∧findAt p s=n∧p (s.getD n d)=true∧∀ i,i<n→p (s.getD i d)=false:=by
 by_cases h:∃ n,n<s.length∧p (s.getD n d)=true
 · obtain ⟨n,h1,h2,h3⟩:=least s.length (p:=fun n=>p (s.getD n d)=true) h
   have h3:∀ i,i<n→p (s.getD i d)=false:=fun i hi=>by simpa using h3 i hi
   exact .inr ⟨n,h1,azy h1 h3 h2,h2,h3⟩
 · have hne:∀ i,i<s.length→p (s.getD i d)=false:=fun i hi=>by
    cases hp:p (s.getD i d) with
    |false=>rfl
    |true=>exact (h ⟨i,hi,hp⟩).elim
   exact .inl ⟨aqA hne,hne⟩
theorem XP:∀ a:Bytes,Op.bytesLess a a=false
 |[]=>rfl
 |x::a=>by
  show (decide (x<x)||(x==x&&Op.bytesLess a a))=false
  rw [XP a,decide_eq_false (UInt8.lt_irrefl x),Bool.and_false];rfl
theorem ahm:∀ a b:Bytes,Op.bytesLess a b=false→a≠b→Op.bytesLess b a=true
 |[],[],_,h=>(h rfl).elim
 |x::a,[],_,_=>rfl
 |[],y::b,h,_=>by cases h
 |x::a,y::b,h,hne=>by
  have h:(decide (x<y)||(x==y&&Op.bytesLess a b))=false:=h
  show (decide (y<x)||(y==x&&Op.bytesLess b a))=true
  rw [Bool.or_eq_false_iff,decide_eq_false_iff_not] at h
  by_cases e:x=y
  · subst e
    have h2:Op.bytesLess a b=false:=by simpa using h.2
    rw [ahm a b h2 (fun e=>hne (by rw [e]))]
    simp
  · have:y<x:=by
     have h1:¬ x.toNat<y.toNat:=fun hh=>h.1 (UInt8.lt_iff_toNat_lt.2 hh)
     have h2:x.toNat≠y.toNat:=fun hh=>e (UInt8.toNat_inj.1 hh)
     exact UInt8.lt_iff_toNat_lt.2 (by omega)
    rw [decide_eq_true this];rfl
theorem aE5 {x y:UInt8} {a b:Bytes}:Op.bytesLess (x::a) (y::b)=true↔x.toNat<y.toNat∨(x=y∧Op.bytesLess a b=true):=by
 show (decide (x<y)||(x==y&&Op.bytesLess a b))=true↔_
 rw [Bool.or_eq_true,decide_eq_true_eq,Bool.and_eq_true,beq_iff_eq,UInt8.lt_iff_toNat_lt]
theorem Ph:∀ a b c:Bytes,Op.bytesLess a b=true→Op.bytesLess b c=true→Op.bytesLess a c=true
 |_,[],_,h,_=>by cases h':(‹Bytes›:Bytes)<;>simp_all [Op.bytesLess]
 |_,_::_,[],_,h=>by cases h
 |[],_::_,_::_,_,_=>rfl
 |x::a,y::b,z::c,h1,h2=>by
  rw [aE5] at h1 h2 ⊢
  rcases h1 with h1|⟨rfl,h1⟩
  · rcases h2 with h2|⟨rfl,h2⟩
    · exact .inl (by omega)
    · exact .inl h1
  · rcases h2 with h2|⟨rfl,h2⟩
    · exact .inl h2
    · exact .inr ⟨rfl,Ph a b c h1 h2⟩
theorem an3 {a b:Bytes} (h:Op.bytesLess a b=true):a≠b:=fun e=>by rw [e,XP] at h;cases h
theorem aDY {a b:Bytes} (h:Op.bytesLess a b=true):Op.bytesLess b a=false:=by
 cases hb:Op.bytesLess b a with
 |false=>rfl
 |true=>have:=Ph a b a h hb;rw [XP] at this;cases this
theorem aFK (a b:Bytes):(!(Op.bytesLess a b||a==b))=Op.bytesLess b a:=by
 cases h:Op.bytesLess a b with
 |true=>rw [aDY h];rfl
 |false=>
  by_cases e:a=b
  · subst e;rw [XP];simp
  · rw [ahm a b h e]
    simp [e]
end Sp
namespace Sp
open Go
def nameOf (d:List aY) (i:Nat):Bytes:=(fO d i).1
def fK (d:List aY) (i:Nat):List bY:=(fO d i).2.1
def Ad (r:List eY) (i:Nat):eY:=r.getD i ([],[],())
def jS (r:List eY) (i:Nat):List (Int×Unit):=(Ad r i).2.1
def mO (d:List aY) (aI:List (Int×Unit)):Prop:=
 aI.length=d.length∧(∀ i,i<d.length→0≤lv aI i∧lv aI i≤d.length)∧(kM (fJ d) fun i=>(lv aI i).toNat)∧∀ M,kM (fJ d) M→∀ i,i<d.length→lv aI i≤M i
theorem amh {d:List aY} {a b:List (Int×Unit)} (h1:mO d a) (h2:mO d b):a=b:=by
 refine aER (h1.1.trans h2.1.symm) fun i hi=>?_
 have hi:i<d.length:=by rw [← h1.1];exact hi
 have a1:=h1.2.2.2 _ h2.2.2.1 i hi
 have a2:=h2.2.2.2 _ h1.2.2.1 i hi
 have:=(h1.2.1 i hi).1
 have:=(h2.2.1 i hi).1
 omega
theorem aDO {d:List aY} (h:∃ M,kM (fJ d) M∧∀ i,i<d.length→M i<d.length):∃ s,mO d s:=by
 have hE:=qi d
 have hmin:∀ i,∃ m,(∃ M,kM (fJ d) M∧M i=m)∧∀ M,kM (fJ d) M→m≤M i:=fun i=>by
  obtain ⟨M0,h0,_⟩:=h
  have:∀ n,(∃ M,kM (fJ d) M∧M i=n)→∃ m,(∃ M,kM (fJ d) M∧M i=m)∧∀ M,kM (fJ d) M→m≤M i:=by
   intro n
   induction n using Nat.strongRecOn with
   |_ n ih=>
    intro hn
    by_cases hl:∃ M,kM (fJ d) M∧M i<n
    · obtain ⟨M,h1,h2⟩:=hl
      exact ih _ h2 ⟨M,h1,rfl⟩
    · exact ⟨n,hn,fun M hM=>Nat.le_of_not_lt fun hlt=>hl ⟨M,hM,hlt⟩⟩
  exact this (M0 i) ⟨M0,h0,rfl⟩
 obtain ⟨L,hL⟩:=Classical.axiomOfChoice hmin
 have hfix:kM (fJ d) L:=fun e he=>by
  obtain ⟨⟨M,h1,h2⟩,_⟩:=hL e.1
  have a:=(hL e.2.1).2 M h1
  have b:=h1 e he
  rw [← h2];omega
 have hlv:∀ i,i<d.length→lv ((List.range d.length).map fun i=>((L i:Int),())) i=L i:=fun i hi=>by
  unfold lv
  rw [List.getD_eq_getElem?_getD,List.getElem?_map,List.getElem?_range hi];rfl
 refine ⟨(List.range d.length).map fun i=>((L i:Int),()),by simp,fun i hi=>?_,fun e he=>?_,fun M hM i hi=>?_⟩
 · rw [hlv i hi]
   obtain ⟨M,h1,h2⟩:=h
   have:=(hL i).2 M h1
   have:=h2 i hi
   omega
 · obtain ⟨h1,h2,_⟩:=hE e he
   have:=hfix e he
   dsimp only
   rw [hlv _ h1,hlv _ h2]
   omega
 · rw [hlv i hi]
   have:=(hL i).2 M hM
   omega
def Y3 (d:List aY) (aI:List (Int×Unit)) (s:Bytes):Nat:=(lv aI (aX d s).toNat).toNat
def due (d:List aY) (nm:Bytes→Bool) (s:Bytes):Prop:=nm s=true∧∃ i,i<d.length∧nameOf d i=s
theorem aE6 {d:List aY} (h:iY d=true) {i:Nat} (hi:i<d.length):dn (fK d i)=true∧(0<i→Op.bytesLess (nameOf d (i-1)) (nameOf d i)=true):=by
 unfold iY at h
 rw [Bool.and_eq_true] at h
 have h1:sO d i=true:=by
  have:=h.1
  unfold l9 at this
  exact List.all_eq_true.1 this i (List.mem_range.2 hi)
 unfold sO at h1
 rw [Bool.and_eq_true,Bool.and_eq_true] at h1
 refine ⟨h1.1.2,fun h0=>?_⟩
 have:=h1.2
 rw [decide_eq_true h0] at this
 simpa [nameOf] using this
theorem ayc {d:List aY} (h:iY d=true):∀ (j i:Nat),i<j→j<d.length→Op.bytesLess (nameOf d i) (nameOf d j)=true
 |0,i,hi,_=>by omega
 |j+1,i,hi,hj=>by
  have h1:=(aE6 h hj).2 (by omega)
  rcases Nat.lt_or_ge i j with h2|h2
  · exact Ph _ _ _ (ayc h j i h2 (by omega)) h1
  · have:i=j:=by omega
    subst this;exact h1
theorem SH {d:List aY} (h:iY d=true) {i j:Nat} (hi:i<d.length) (hj:j<d.length) (e:nameOf d i=nameOf d j):i=j:=by
 rcases Nat.lt_trichotomy i j with h1|h1|h1
 · exact (an3 (ayc h j i h1 hj) e).elim
 · exact h1
 · exact (an3 (ayc h i j h1 hi) e.symm).elim
theorem ahE {d:List aY} (h:iY d=true) {i:Nat} (hi:i<d.length):aX d (nameOf d i)=i:=by
 rcases Pj d (nameOf d i) with ⟨_,h2⟩|⟨n,h1,h2,h3,_⟩
 · refine (h2 (fO d i) ?_ rfl).elim
   unfold fO
   rw [List.getD_eq_getElem?_getD,List.getElem?_eq_getElem hi]
   exact List.getElem_mem hi
 · rw [h2,SH h h1 hi h3]
theorem Ij {d:List aY} (h:iY d=true) {aI:List (Int×Unit)} {i:Nat} (hi:i<d.length):Y3 d aI (nameOf d i)=(lv aI i).toNat:=by
 unfold Y3;rw [ahE h hi];rfl
theorem SI {fs:List aT} {d:List aY} (h:iY d=true) {aI:List (Int×Unit)} (hl:mO d aI) (nm:Bytes→Bool):aAo (adB fs d) (due d nm) (Y3 d aI):=by
 intro s t _ ht
 obtain ⟨_,j,hj,rfl⟩:=ht
 have edge:∀ i,i<d.length→∀ m b,(m=0∧b=false∨m=1∧b=true)→nameOf d j∈fP (fK d i) b→(lv aI j).toNat+m≤(lv aI i).toNat:=fun i hi m b hm hd=>by
  refine hl.2.2.1 (i,j,m) (OX.2 ⟨hi,nameOf d j,?_,by rw [ahE h hj];omega,by rw [ahE h hj];rfl⟩)
  rcases hm with ⟨a,b⟩|⟨a,b⟩
  · subst a b;exact .inl ⟨rfl,hd⟩
  · subst a b;exact .inr ⟨rfl,hd⟩
 refine ⟨?_,?_⟩
 · rintro ⟨i,hi,rfl,hd⟩
   rw [show (fO d i).1=nameOf d i from rfl,Ij h hi,Ij h hj]
   exact edge i hi 0 false (.inl ⟨rfl,rfl⟩) hd
 · rintro ⟨i,hi,rfl,hd⟩
   rw [show (fO d i).1=nameOf d i from rfl,Ij h hi,Ij h hj]
   exact edge i hi 1 true (.inr ⟨rfl,rfl⟩) hd
def Bg (d:List aY) (out:List eY):Prop:=out.length=d.length∧∀ i,i<d.length→(Ad out i).1=nameOf d i
theorem XK:∀ {r:List eY} {s:Bytes},(∀ i,i<r.length→(Ad r i).1≠s)→gW r s=[]
 |[],_,_=>rfl
 |x::r,s,h=>by
  have h0:x.1≠s:=h 0 (by simp)
  rw [gW,beq_eq_false_iff_ne.2 h0]
  exact XK fun i hi=>h (i+1) (by simpa using hi)
theorem amd:∀ {r:List eY} {i:Nat},i<r.length→(∀ j,j<i→(Ad r j).1≠(Ad r i).1)→gW r (Ad r i).1=jS r i
 |[],i,h,_=>by simp at h
 |x::r,0,_,_=>by
  show gW (x::r) x.1=x.2.1
  rw [gW,beq_iff_eq.2 rfl];rfl
 |x::r,i+1,h,hn=>by
  have h0:x.1≠(Ad r i).1:=hn 0 (by omega)
  show gW (x::r) (Ad r i).1=jS r i
  rw [gW,beq_eq_false_iff_ne.2 h0]
  exact amd (by simpa using h) fun j hj=>hn (j+1) (by omega)
theorem Dq {d:List aY} (h:iY d=true) {out:List eY} (ho:Bg d out) {i:Nat} (hi:i<d.length):gW out (nameOf d i)=jS out i:=by
 rw [← ho.2 i hi]
 refine amd (by rw [ho.1];exact hi) fun j hj e=>?_
 rw [ho.2 j (by omega),ho.2 i hi] at e
 have:=SH h (by omega) hi e
 omega
theorem YE {d:List aY} {out:List eY} (ho:Bg d out) {s:Bytes} (hs:∀ i,i<d.length→nameOf d i≠s):gW out s=[]:=
 XK fun i hi=>by rw [ho.1] at hi;rw [ho.2 i hi];exact hs i hi
structure iO (fs:List aT) (d:List aY) (r:List eY) (nm:Bytes→Bool) (out:List eY):Prop where
 order:Bg d out
 kept:∀ i,i<d.length→nm (nameOf d i)=false→jS out i=gW r (nameOf d i)
 fix:∀ i,i<d.length→nm (nameOf d i)=true→jS out i=sel fs (fK d i) (bK out)
 aI:∃ aI,mO d aI∧Eval (adB fs d) (due d nm) (Y3 d aI) (bK out)
theorem an4 {a b:List (Int×Unit)} (h:a=b) (x:Int):gu a x=gu b x:=by rw [h]
theorem aCW {d:List aY} {a b:List eY} (ha:Bg d a) (hb:Bg d b) (h:∀ i,i<d.length→jS a i=jS b i):a=b:=by
 refine List.ext_getElem (ha.1.trans hb.1.symm) fun i h1 h2=>?_
 have hi:i<d.length:=by rw [← ha.1];exact h1
 have e1:=ha.2 i hi
 have e2:=hb.2 i hi
 have e3:=h i hi
 unfold jS at e3
 unfold Ad at e1 e2 e3
 rw [List.getD_eq_getElem?_getD,List.getElem?_eq_getElem h1] at e1 e3
 rw [List.getD_eq_getElem?_getD,List.getElem?_eq_getElem h2] at e2 e3
 simp only [Option.getD_some] at e1 e2 e3
 exact Prod.ext (e1.trans e2.symm) (Prod.ext e3 rfl)
theorem ab3 {fs:List aT} {d:List aY} {r:List eY} {nm:Bytes→Bool} {a b:List eY} (h:iY d=true) (ha:iO fs d r nm a) (hb:iO fs d r nm b):a=b:=by
 obtain ⟨l1,hl1,e1⟩:=ha.aI
 obtain ⟨l2,hl2,e2⟩:=hb.aI
 have off:∀ s,¬ due d nm s→∀ x,bK a s x=bK b s x:=fun s hs x=>by
  by_cases hd:∃ i,i<d.length∧nameOf d i=s
  · obtain ⟨i,hi,rfl⟩:=hd
    have hn:nm (nameOf d i)=false:=by
     rw [Bool.eq_false_iff];exact fun hn=>hs ⟨hn,i,hi,rfl⟩
    exact an4 (by rw [Dq h ha.order hi,Dq h hb.order hi,ha.kept i hi hn,hb.kept i hi hn]) x
  · have hd':∀ i,i<d.length→nameOf d i≠s:=fun i hi e=>hd ⟨i,hi,e⟩
    exact an4 (by rw [YE ha.order hd',YE hb.order hd']) x
 have key:=aek (U:=due d nm) e1 e2 (SI h hl1 nm) (SI h hl2 nm) (fun _ h=>h) (fun _ h=>h) (fun _ _ _ _=>Iff.rfl) (fun _ _ _ h=>h) (fun _ _ _ h=>h)
  fun i _ j _=>Classical.or_iff_not_imp_left.2 (off j)
 have all:bK a=bK b:=by
  funext s x
  by_cases hs:due d nm s
  · exact key s hs x
  · exact off s hs x
 refine aCW ha.order hb.order fun i hi=>?_
 cases hn:nm (nameOf d i) with
 |false=>rw [ha.kept i hi hn,hb.kept i hi hn]
 |true=>rw [ha.fix i hi hn,hb.fix i hi hn,all]
def an5 {ι α:Type} (S:Sys ι α) (N:ι→Prop) (aI:ι→Nat) (k:Nat) (X:Ext ι α):Prop:=
 ∀ Y:Ext ι α,(∀ i,¬ (N i∧aI i=k)→∀ x,Y i x=X i x)→(∀ i,N i→aI i=k→∀ x,S.T i Y x→Y i x=true)→∀ i,N i→aI i=k→∀ x,X i x=true→Y i x=true
open Classical in
theorem ayd {ι α:Type} {S:Sys ι α} {N:ι→Prop} {aI:ι→Nat} (hs:aAo S N aI) {m:Nat} {X X':Ext ι α} (h:∀ i,¬ (N i∧m<aI i)→∀ x,X i x=X' i x) (hX:an5 S N aI m X):an5 S N aI m X':=by
 intro Y hY hp i hi hl x hx
 have key:=hX (fun i x=>if N i∧m<aI i then X i x else Y i x) (fun j hj y=>?_) (fun j hj hlj y hy=>?_) i hi hl x (by rw [h i (by omega)];exact hx)
 · rw [if_neg (by omega)] at key;exact key
 · by_cases hc:N j∧m<aI j
   · rw [if_pos hc]
   · rw [if_neg hc,hY j hj,h j hc]
 · rw [if_neg (by omega)]
   have same:∀ t,(S.pos j t∨S.neg j t)→¬ (N t∧m<aI t):=fun t ht hc=>by
    rcases ht with ht|ht
    · have:=(hs j t hj hc.1).1 ht;omega
    · have:=(hs j t hj hc.1).2 ht;omega
   refine hp j hj hlj y (S.mono j _ Y (fun t ht z hz=>?_) (fun t ht z=>?_) y hy)
   · rw [if_neg (same t (.inl ht))] at hz;exact hz
   · rw [if_neg (same t (.inr ht))]
def canon (fs:List aT) (l:List (Int×Unit)):Prop:=l=(fs.filter fun f=>gu l f.1).map fun f=>(f.1,())
def distinct (fs:List aT):Prop:=∀ f∈fs,∀ g∈fs,f.1=g.1→f=g
theorem aE7 {fs:List aT} (hd:distinct fs) (q:List bY) (X:BX):canon fs (sel fs q X):=by
 show _=List.map _ (List.filter _ _)
 conv=>lhs;unfold sel
 congr 1
 apply List.filter_congr
 intro f hf
 rw [Bool.eq_iff_iff,Uc,ayb]
 exact ⟨fun h=>⟨f,hf,rfl,h⟩,fun ⟨g,hg,e,hm⟩=>by rw [hd f hf g hg e.symm];exact hm⟩
theorem azz {fs:List aT} {l:List (Int×Unit)} (h:canon fs l):l.length≤fs.length:=by
 rw [h,List.length_map];exact List.length_filter_le _ _
theorem filter_lt {α:Type} {p q:α→Bool} (h:∀ x,p x=true→q x=true):∀ {l:List α},(∃ x∈l,q x=true∧p x=false)→(l.filter p).length<(l.filter q).length
 |[],h'=>by obtain ⟨x,hx,_⟩:=h';cases hx
 |y::r,h'=>by
  have le:(r.filter p).length≤(r.filter q).length:=by
   clear h'
   induction r with
   |nil=>exact Nat.le_refl _
   |cons z t ih=>
    cases hp:p z with
    |true=>rw [List.filter_cons_of_pos hp,List.filter_cons_of_pos (h z hp)];simpa using ih
    |false=>
     rw [List.filter_cons_of_neg (by simp [hp])]
     cases hq:q z with
     |true=>rw [List.filter_cons_of_pos hq];exact Nat.le_succ_of_le ih
     |false=>rw [List.filter_cons_of_neg (by simp [hq])];exact ih
  obtain ⟨x,hx,hq,hp⟩:=h'
  rcases List.mem_cons.1 hx with rfl|hx
  · rw [List.filter_cons_of_pos hq,List.filter_cons_of_neg (by simp [hp])]
    exact Nat.lt_succ_of_le le
  · have ih:=filter_lt h ⟨x,hx,hq,hp⟩
    cases hp':p y with
    |true=>rw [List.filter_cons_of_pos hp',List.filter_cons_of_pos (h y hp')];simpa using ih
    |false=>
     rw [List.filter_cons_of_neg (by simp [hp'])]
     cases hq':q y with
     |true=>rw [List.filter_cons_of_pos hq'];exact Nat.lt_succ_of_lt ih
     |false=>rw [List.filter_cons_of_neg (by simp [hq'])];exact ih
theorem aDZ {fs:List aT} {a b:List (Int×Unit)} (ha:canon fs a) (hb:canon fs b) (h:∀ x,gu a x=true→gu b x=true) (hne:b≠a):a.length<b.length:=by
 rw [ha,hb,List.length_map,List.length_map]
 refine filter_lt (p:=fun f:aT=>gu a f.1) (q:=fun f:aT=>gu b f.1) (fun f=>h f.1) (Classical.byContradiction fun hno=>hne ?_)
 rw [ha,hb]
 congr 1
 apply List.filter_congr
 intro f hf
 cases hb':gu b f.1 with
 |false=>
  cases ha':gu a f.1 with
  |false=>rfl
  |true=>rw [h _ ha'] at hb';cases hb'
 |true=>
  cases ha':gu a f.1 with
  |true=>rfl
  |false=>exact (hno ⟨f,hf,hb',ha'⟩).elim
structure uM (fs:List aT) (d:List aY) (r:List eY) (nm:Bytes→Bool) (aI:List (Int×Unit)) (k:Nat) (out:List eY):Prop where
 order:Bg d out
 kept:∀ i,i<d.length→nm (nameOf d i)=false→jS out i=gW r (nameOf d i)
 later:∀ i,i<d.length→nm (nameOf d i)=true→(k:Int)<lv aI i→jS out i=[]
 done:∀ i,i<d.length→nm (nameOf d i)=true→lv aI i<k→jS out i=sel fs (fK d i) (bK out)
 amW:∀ m,m<k→an5 (adB fs d) (due d nm) (Y3 d aI) m (bK out)
 aBJ:∀ i,i<d.length→nm (nameOf d i)=true→lv aI i=k→∀ x,gu (jS out i) x=true→(x,())∈sel fs (fK d i) (bK out)
 least:an5 (adB fs d) (due d nm) (Y3 d aI) k (bK out)
 canon:∀ i,i<d.length→nm (nameOf d i)=true→canon fs (jS out i)
theorem aFL {fs:List aT} {d:List aY} {r:List eY} {nm:Bytes→Bool} {aI:List (Int×Unit)} (h:iY d=true) (hl:mO d aI) {out:List eY} (ho:Bg d out)
 (h1:∀ i,i<d.length→nm (nameOf d i)=false→jS out i=gW r (nameOf d i)) (h2:∀ i,i<d.length→nm (nameOf d i)=true→jS out i=[]):uM fs d r nm aI 0 out where
 order:=ho
 kept:=h1
 later:=fun i hi hn _=>h2 i hi hn
 done:=fun i hi _ hlt=>by have:=(hl.2.1 i hi).1;omega
 amW:=fun m hm=>by omega
 aBJ:=fun i hi hn _ x hx=>by rw [h2 i hi hn] at hx;cases hx
 least:=fun Y _ _ s hs _ x hx=>by
  obtain ⟨hn,i,hi,rfl⟩:=hs
  have hx:gu (gW out (nameOf d i)) x=true:=hx
  rw [Dq h ho hi,h2 i hi hn] at hx;cases hx
 canon:=fun i hi hn=>by rw [h2 i hi hn];show []=List.map _ (List.filter _ _);rw [List.filter_eq_nil_iff.2 (fun f _=>by simp [gu])];rfl
theorem adC {out:List eY} {i j:Nat} {x:eY} (hi:i<out.length):Ad (out.set i x) j=if j=i then x else Ad out j:=by
 unfold Ad
 rw [List.getD_eq_getElem?_getD,List.getElem?_set]
 by_cases h:j=i
 · subst h;rw [if_pos rfl,if_pos hi,if_pos rfl];rfl
 · rw [if_neg (fun e=>h e.symm),if_neg h,← List.getD_eq_getElem?_getD]
theorem azA {d:List aY} {out:List eY} (ho:Bg d out) {i:Nat} (hi:i<d.length) (l:List (Int×Unit)):Bg d (out.set i (nameOf d i,l,())):=by
 refine ⟨by rw [List.length_set];exact ho.1,fun j hj=>?_⟩
 rw [adC (by rw [ho.1];exact hi)]
 split
 · next e=>rw [e]
 · exact ho.2 j hj
theorem aE8 {d:List aY} (h:iY d=true) {out:List eY} (ho:Bg d out) {i:Nat} (hi:i<d.length) (l:List (Int×Unit)):
 (∀ x,bK (out.set i (nameOf d i,l,())) (nameOf d i) x=gu l x)∧∀ s,s≠nameOf d i→∀ x,bK (out.set i (nameOf d i,l,())) s x=bK out s x:=by
 have ho':=azA ho hi l
 refine ⟨fun x=>?_,fun s hs x=>?_⟩
 · refine an4 ?_ x
   rw [Dq h ho' hi]
   unfold jS
   rw [adC (by rw [ho.1];exact hi),if_pos rfl]
 · refine an4 ?_ x
   by_cases hd:∃ j,j<d.length∧nameOf d j=s
   · obtain ⟨j,hj,rfl⟩:=hd
     rw [Dq h ho' hj,Dq h ho hj]
     unfold jS
     rw [adC (by rw [ho.1];exact hi),if_neg (fun e=>hs (by rw [e]))]
   · have hd':∀ i,i<d.length→nameOf d i≠s:=fun i hi e=>hd ⟨i,hi,e⟩
     rw [YE ho' hd',YE ho hd']
theorem an6 {fs:List aT} {d:List aY} (h:iY d=true) {i:Nat} (hi:i<d.length) {X:BX} {x:Int}:(adB fs d).T (nameOf d i) X x↔(x,())∈sel fs (fK d i) X:=by
 constructor
 · rintro ⟨j,hj,e,hx⟩
   have:=SH h hj hi e
   subst this;exact hx
 · exact fun hx=>⟨i,hi,rfl,hx⟩
theorem at_set {fs:List aT} {d:List aY} {r:List eY} {nm:Bytes→Bool} {aI:List (Int×Unit)} {k:Nat} {out:List eY} (h:iY d=true) (hl:mO d aI) (hf:distinct fs) (A:uM fs d r nm aI k out) {i:Nat} (hi:i<d.length) (hn:nm (nameOf d i)=true) (hk:lv aI i=k):
 uM fs d r nm aI k (out.set i (nameOf d i,sel fs (fK d i) (bK out),()))∧(sel fs (fK d i) (bK out)≠jS out i→(jS out i).length<(sel fs (fK d i) (bK out)).length)∧(sel fs (fK d i) (bK out)).length≤fs.length:=by
 have hc:=aE7 hf (fK d i) (bK out)
 have hol:i<out.length:=by rw [A.order.1];exact hi
 have hs:=SI (fs:=fs) h hl nm
 have hd:due d nm (nameOf d i):=⟨hn,i,hi,rfl⟩
 have hlv:Y3 d aI (nameOf d i)=k:=by rw [Ij h hi,hk];rfl
 obtain ⟨g1,g2⟩:=aE8 h A.order hi (sel fs (fK d i) (bK out))
 have up:∀ s x,bK out s x=true→bK (out.set i (nameOf d i,sel fs (fK d i) (bK out),())) s x=true:=fun s x hx=>by
  by_cases e:s=nameOf d i
  · subst e
    rw [g1,Uc]
    refine A.aBJ i hi hn hk x ?_
    have hx:gu (gW out (nameOf d i)) x=true:=hx
    rw [Dq h A.order hi] at hx;exact hx
  · rw [g2 s e];exact hx
 have off:∀ s,¬ (due d nm s∧Y3 d aI s=k)→∀ x,bK out s x=bK (out.set i (nameOf d i,sel fs (fK d i) (bK out),())) s x:=fun s hs' x=>(g2 s (fun e=>hs' (by rw [e];exact ⟨hd,hlv⟩)) x).symm
 have ids:∀ j,jS (out.set i (nameOf d i,sel fs (fK d i) (bK out),())) j=if j=i then sel fs (fK d i) (bK out) else jS out j:=fun j=>by
  unfold jS
  rw [adC hol]
  split<;>rfl
 refine ⟨⟨azA A.order hi _,fun j hj hnj=>?_,fun j hj hnj hlj=>?_,fun j hj hnj hlj=>?_,fun m hm=>?_,fun j hj hnj hlj x hx=>?_,?_,fun j hj hnj=>?_⟩,fun hne=>?_,azz hc⟩
 · rw [ids,if_neg (fun e=>by rw [e,hn] at hnj;cases hnj)];exact A.kept j hj hnj
 · rw [ids,if_neg (fun e=>by rw [e,hk] at hlj;omega)];exact A.later j hj hnj hlj
 · rw [ids,if_neg (fun e=>by rw [e,hk] at hlj;omega),A.done j hj hnj hlj]
   refine amS fun b s hsd x=>off s (fun hc=>?_) x
   have hdj:due d nm (nameOf d j):=⟨hnj,j,hj,rfl⟩
   have:=hs (nameOf d j) s hdj hc.1
   have aIN:Y3 d aI (nameOf d j)<k:=by rw [Ij h hj];have:=(hl.2.1 j hj).1;omega
   cases b with
   |false=>have:=this.1 ⟨j,hj,rfl,hsd⟩;omega
   |true=>have:=this.2 ⟨j,hj,rfl,hsd⟩;omega
 · exact ayd hs (fun s hs'=>off s fun hc=>hs' ⟨hc.1,by omega⟩) (A.amW m hm)
 · have hT:(adB fs d).T (nameOf d j) (bK out) x:=by
    rw [an6 h hj]
    rw [ids] at hx
    by_cases e:j=i
    · rw [if_pos e,Uc] at hx;rw [e];exact hx
    · rw [if_neg e] at hx;exact A.aBJ j hj hnj hlj x hx
   rw [← an6 h hj]
   refine (adB fs d).mono _ _ _ (fun s _=>up s) (fun s hsd=>off s fun hc=>?_) x hT
   have:=(hs (nameOf d j) s ⟨hnj,j,hj,rfl⟩ hc.1).2 hsd
   have aIN:Y3 d aI (nameOf d j)=k:=by rw [Ij h hj,hlj];rfl
   omega
 · intro Y hY hp s hsd hls x hx
   have hY':∀ t,¬ (due d nm t∧Y3 d aI t=k)→∀ x,Y t x=bK out t x:=fun t ht x=>(hY t ht x).trans (off t ht x).symm
   have base:=A.least Y hY' hp
   by_cases e:s=nameOf d i
   · subst e
     rw [g1,Uc,← an6 h hi] at hx
     refine hp _ hsd hls x ((adB fs d).mono _ _ _ (fun t _ y hy=>?_) (fun t ht y=>?_) x hx)
     · by_cases ht:due d nm t∧Y3 d aI t=k
       · exact base t ht.1 ht.2 y hy
       · rw [hY' t ht];exact hy
     · refine (hY' t (fun hc=>?_) y).symm
       have:=(hs (nameOf d i) t hd hc.1).2 ht
       omega
   · rw [g2 s e] at hx
     exact base s hsd hls x hx
 · rw [ids]
   split
   · exact hc
   · exact A.canon j hj hnj
 · refine aDZ (A.canon i hi hn) hc (fun x hx=>?_) hne
   rw [Uc];exact A.aBJ i hi hn hk x hx
theorem at_next {fs:List aT} {d:List aY} {r:List eY} {nm:Bytes→Bool} {aI:List (Int×Unit)} {k:Nat} {out:List eY} (h:iY d=true) (A:uM fs d r nm aI k out) (hstill:∀ i,i<d.length→nm (nameOf d i)=true→lv aI i=k→sel fs (fK d i) (bK out)=jS out i):uM fs d r nm aI (k+1) out where
 order:=A.order
 kept:=A.kept
 later:=fun i hi hn hlt=>A.later i hi hn (by omega)
 done:=fun i hi hn hlt=>by
  by_cases e:lv aI i=k
  · exact (hstill i hi hn e).symm
  · exact A.done i hi hn (by omega)
 amW:=fun m hm=>by
  by_cases e:m=k
  · subst e;exact A.least
  · exact A.amW m (by omega)
 aBJ:=fun i hi hn hl x hx=>by rw [A.later i hi hn (by omega)] at hx;cases hx
 least:=fun Y _ _ s hs hls x hx=>by
  obtain ⟨hn,i,hi,rfl⟩:=hs
  rw [Ij h hi] at hls
  have hx:gu (gW out (nameOf d i)) x=true:=hx
  rw [Dq h A.order hi,A.later i hi hn (by omega)] at hx;cases hx
 canon:=A.canon
theorem at_end {fs:List aT} {d:List aY} {r:List eY} {nm:Bytes→Bool} {aI:List (Int×Unit)} {k:Nat} {out:List eY} (h:iY d=true) (hl:mO d aI) (A:uM fs d r nm aI k out) (hk:∀ i,i<d.length→lv aI i<k):iO fs d r nm out where
 order:=A.order
 kept:=A.kept
 fix:=fun i hi hn=>A.done i hi hn (hk i hi)
 aI:=⟨aI,hl,{
  fix:=fun s hs x=>by
   obtain ⟨hn,i,hi,rfl⟩:=hs
   rw [an6 h hi,← A.done i hi hn (hk i hi),← Uc,← Dq h A.order hi];rfl
  least:=fun m Y hY hp s hs hls=>by
   have hm:m<k:=by
    obtain ⟨hn,i,hi,rfl⟩:=hs
    rw [Ij h hi] at hls
    have:=hk i hi
    have:=(hl.2.1 i hi).1
    omega
   exact A.amW m hm Y hY hp s hs hls}⟩
def room (n:Nat) (out:List eY):Nat:=(out.map fun x=>n-x.2.1.length).sum
theorem asI {n:Nat}:∀ {out:List eY} {i:Nat} {x:eY},i<out.length→(jS out i).length<x.2.1.length→x.2.1.length≤n→room n (out.set i x)<room n out
 |[],i,x,h,_,_=>by simp at h
 |y::r,0,x,_,h1,h2=>by
  have h1:y.2.1.length<x.2.1.length:=h1
  show ((x::r).map fun x=>n-x.2.1.length).sum<((y::r).map fun x=>n-x.2.1.length).sum
  rw [List.map_cons,List.sum_cons,List.map_cons,List.sum_cons]
  omega
 |y::r,i+1,x,h,h1,h2=>by
  have ih:=asI (out:=r) (i:=i) (x:=x) (by simpa using h) h1 h2
  show ((y::r.set i x).map fun x=>n-x.2.1.length).sum<((y::r).map fun x=>n-x.2.1.length).sum
  rw [List.map_cons,List.sum_cons,List.map_cons,List.sum_cons]
  unfold room at ih
  omega
end Sp
namespace Sp
open Go
abbrev adx:=Bytes×List (Int×Unit)×List (Int×Unit)×Unit
abbrev EG:=List iZ×List aT×Int×List aY×List eY×Unit
instance:DecidableEq (List (Int×Unit)):=inferInstance
instance:DecidableEq eY:=inferInstance
instance:DecidableEq (List eY):=inferInstance
instance:DecidableEq (List eY×Unit):=inferInstance
instance:DecidableEq (List aY×List eY×Unit):=inferInstance
instance:DecidableEq (Int×List aY×List eY×Unit):=inferInstance
instance:DecidableEq (List aT×Int×List aY×List eY×Unit):=inferInstance
instance aJt:DecidableEq EG:=(inferInstance:DecidableEq (List iZ×List aT×Int×List aY×List eY×Unit))
def dY (l:LS) (s:Bytes):Bool:=l.any fun x=>x.1==s
theorem jk {l:LS} {s:Bytes}:dY l s=true↔(s,())∈l:=by
 unfold dY
 rw [List.any_eq_true]
 exact ⟨fun ⟨y,hy,h⟩=>by rw [← beq_iff_eq.1 h];exact hy,fun h=>⟨_,h,beq_iff_eq.2 rfl⟩⟩
def aZ (r:List eY):Prop:=r.length≤1000∧∀ x∈r,x.2.1.length≤1000
def mF (c:EG):eG:=(c.1,c.2.1,c.2.2.1,())
def vz (c:EG):List aY:=c.2.2.2.1
def J5 (c:EG):List eY:=c.2.2.2.2.1
def jH (c:EG):Prop:=bC (mF c)∧aO (vz c)∧aZ (J5 c)
def Rl (f:aT):Prop:=f.2.2.2.2.1.length≤500
def XF (c:EG):Prop:=∀ f∈c.2.1,Rl f
def jD (d:List aY):LS:=d.map fun x=>(x.1,())
def abf (d:List aY) (m:Int):Prop:=m≤1000∧∀ aI,aF d=true→mO d aI→∀ i,i<d.length→lv aI i≤m
open Classical in
noncomputable def o5 (c:EG):Bool:=aF (vz c)&&aH (mF c)&&decide (iO c.2.1 (vz c) [] (fun _=>true) (J5 c))
def gV (a:List gZ):LS:=a.map fun x=>(x.1,())
def jU (f g:aT):List Bytes:=((f.2.2.2.2.1++g.2.2.2.2.1).map fun a=>a.1).filter fun s=>!decide (dF f.2.2.2.2.1 s=dF g.2.2.2.2.1 s)
def mY (q:List bY):List Bytes:=(q.filter fun n=>n.1==2||(n.1==3||n.1==4)).map fun n=>n.2.2.2.1
def sQ (q:List bY):List Bytes:=(q.filter lN).map fun n=>n.2.2.2.1
def linked (q:List bY):Bool:=q.any fun n=>n.1==9
def asking (d:List aY) (name:Bytes):LS:=(d.filter fun x=>(sQ x.2.1).contains name).map fun x=>(x.1,())
inductive Reach (d:List aY) (P:Bytes→Prop):Bytes→Prop where
 |base {s}:P s→Reach d P s
 |step {s i}:Reach d P s→i<d.length→s∈sQ (fK d i)→Reach d P (nameOf d i)
def isSet (r:LS) (P:Bytes→Prop):Prop:=r.length≤1000∧∀ s,dY r s=true↔P s
def reached (d:List aY) (names r:LS):Prop:=isSet r (Reach d fun s=>dY names s=true)
def Xv (d:List aY) (f g:aT) (s:Bytes):Prop:=
 ∃ i,i<d.length∧nameOf d i=s∧(f.1≠g.1∨(∃ t,t∈mY (fK d i)∧t∈jU f g)∨(linked (fK d i)=true∧f.2.2.2.1≠g.2.2.2.1))
def touched (d:List aY) (f g:aT) (r:LS):Prop:=r.length≤d.length∧∀ s,dY r s=true↔Xv d f g s
def Aff (d:List aY) (f g:aT):Bytes→Prop:=Reach d (Xv d f g)
open Classical in
noncomputable def ax6 (d:List aY) (f g:aT) (s:Bytes):Bool:=decide (Aff d f g s)
def without (a b:List (Int×Unit)):List (Int×Unit):=a.filter fun x=>!gu b x.1
def Bf (a:List eY) (x:eY):adx:=(x.1,without x.2.1 (gW a x.1),without (gW a x.1) x.2.1,())
def Ie (y:adx):Bool:=decide (0<y.2.1.length+y.2.2.1.length)
def O5 (a b:List eY):List adx:=(b.map (Bf a)).filter Ie
def turned (c:EG) (s:eG) (d:List aY) (nm:Bytes→Bool) (c':EG) (df:List adx) (ok:Bool):Prop:=
 ok=(aF d&&aH s)∧(ok=true→mF c'=s∧vz c'=d∧iO s.2.1 d (J5 c) nm (J5 c')∧df=O5 (J5 c) (J5 c'))∧(ok=false→c'=c∧df=[])
def updated (c:EG) (f:aT) (c':EG) (df:List adx) (ok:Bool):Prop:=
 ok=(o5 c&&(aW (mF c) f).2)∧
 (ok=true→mF c'=(aW (mF c) f).1∧vz c'=vz c∧iO (aW (mF c) f).1.2.1 (vz c) (J5 c) (ax6 (vz c) (fC (mF c) f.1).1 f) (J5 c')∧df=O5 (J5 c) (J5 c'))∧
 (ok=false→c'=c∧df=[])
def ZU (c:EG):Prop:=jH c∧c.1=usual∧0<c.2.1.length∧o5 c=true
def Xu (fs:List aT) (d:List aY) (r:List eY) (nm:Bytes→Bool) (aI:List (Int×Unit)) (k:Nat) (amX:List eY) (i:Nat) (c:Bool) (out:List eY):Prop:=
 uM fs d r nm aI k out∧(c=true→room fs.length out<room fs.length amX)∧
  (c=false→out=amX∧∀ j,j<i→j<d.length→nm (nameOf d j)=true→lv aI j=k→sel fs (fK d j) (bK out)=jS out j)
theorem Kz {fs:List aT} {d:List aY} {r:List eY} {nm:Bytes→Bool} {aI:List (Int×Unit)} {k i:Nat} {amX out:List eY} {c:Bool} (h:Xu fs d r nm aI k amX i c out) (hs:nm (nameOf d i)=true→lv aI i=k→sel fs (fK d i) (bK out)=jS out i):Xu fs d r nm aI k amX (i+1) c out:=
 ⟨h.1,h.2.1,fun hc=>⟨(h.2.2 hc).1,fun j hj hd hn hl=>by
   rcases Nat.lt_or_ge j i with h'|h'
   · exact (h.2.2 hc).2 j h' hd hn hl
   · have:j=i:=by omega
     subst this;exact hs hn hl⟩⟩
theorem asl {fs:List aT} {d:List aY} {r:List eY} {nm:Bytes→Bool} {aI:List (Int×Unit)} {k i:Nat} {amX out:List eY} {c:Bool} (hd:iY d=true) (hl:mO d aI) (hf:distinct fs) (h:Xu fs d r nm aI k amX i c out) (hi:i<d.length) (hn:nm (nameOf d i)=true) (hk:lv aI i=k) (hne:sel fs (fK d i) (bK out)≠jS out i):
 Xu fs d r nm aI k amX (i+1) true (out.set i ((Ad out i).1,sel fs (fK d i) (bK out),())):=by
 obtain ⟨A,h1,h2⟩:=h
 rw [A.order.2 i hi]
 obtain ⟨g1,g2,g3⟩:=at_set hd hl hf A hi hn hk
 refine ⟨g1,fun _=>?_,fun h=>by cases h⟩
 have hr:room fs.length (out.set i (nameOf d i,sel fs (fK d i) (bK out),()))<room fs.length out:=asI (by rw [A.order.1];exact hi) (g2 hne) g3
 cases c with
 |true=>have:=h1 rfl;omega
 |false=>rw [(h2 rfl).1] at hr ⊢;exact hr
theorem ad7 {fs:List aT} {d:List aY} {r:List eY} {nm:Bytes→Bool} {aI:List (Int×Unit)} {k:Nat} {out:List eY} (A:uM fs d r nm aI k out) (hd:d.length≤1000) (hf:fs.length≤1000) (hr:aZ r):aZ out:=by
 refine ⟨by rw [A.order.1];exact hd,fun x hx=>?_⟩
 obtain ⟨i,hi,rfl⟩:=List.getElem_of_mem hx
 have hi':i<d.length:=by rw [← A.order.1];exact hi
 have e:(out[i]).2.1=jS out i:=by
  unfold jS Ad
  rw [List.getD_eq_getElem?_getD,List.getElem?_eq_getElem hi];rfl
 rw [e]
 cases hn:nm (nameOf d i) with
 |true=>exact Nat.le_trans (azz (A.canon i hi' hn)) hf
 |false=>
  rw [A.kept i hi' hn]
  have:∀ l:List eY,(∀ x∈l,x.2.1.length≤1000)→(gW l (nameOf d i)).length≤1000:=by
   intro l
   induction l with
   |nil=>exact fun _=>Nat.zero_le _
   |cons x t ih=>
    intro hl
    rw [gW]
    cases x.1==nameOf d i with
    |true=>exact hl x List.mem_cons_self
    |false=>exact ih fun y hy=>hl y (List.mem_cons_of_mem _ hy)
  exact this r hr.2
def yF (r:List eY) (nm:Bytes→Bool) (x:aY):eY:=(x.1,bif nm x.1 then [] else gW r x.1,())
theorem asJ {d:List aY} {r:List eY} {nm:Bytes→Bool} {i:Nat} (hi:i<d.length):Ad (d.map (yF r nm)) i=yF r nm (fO d i):=by
 unfold Ad fO
 rw [List.getD_eq_getElem?_getD,List.getD_eq_getElem?_getD,List.getElem?_map,List.getElem?_eq_getElem hi];rfl
theorem XL {fs:List aT} {d:List aY} {r:List eY} {nm:Bytes→Bool} {aI:List (Int×Unit)} (hd:iY d=true) (hl:mO d aI):uM fs d r nm aI 0 (d.map (yF r nm)):=by
 refine aFL hd hl ⟨by simp,fun i hi=>?_⟩ (fun i hi hn=>?_) fun i hi hn=>?_
 · rw [asJ hi];rfl
 · unfold jS
   rw [asJ hi]
   show (bif nm (nameOf d i) then [] else gW r (nameOf d i))=_
   rw [hn];rfl
 · unfold jS
   rw [asJ hi]
   show (bif nm (nameOf d i) then [] else gW r (nameOf d i))=_
   rw [hn];rfl
theorem ahl {s:eG} (h:aH s=true):∀ (j i:Nat),i<j→j<s.2.1.length→(fileAt s.2.1 i).1<(fileAt s.2.1 j).1:=by
 intro j
 induction j with
 |zero=>intro i hi;omega
 |succ j ih=>
  intro i hi hj
  have h1:oP s (j+1)=true:=by
   unfold aH at h
   rw [Bool.and_eq_true,Bool.and_eq_true,Bool.and_eq_true] at h
   have:=h.1.1.1
   unfold l9 at this
   exact List.all_eq_true.1 this (j+1) (List.mem_range.2 hj)
  have h2:(fileAt s.2.1 j).1<(fileAt s.2.1 (j+1)).1:=by
   unfold oP at h1
   rw [Bool.and_eq_true] at h1
   have:=h1.2
   rw [decide_eq_true (Nat.succ_pos j)] at this
   simpa using this
  rcases Nat.lt_or_ge i j with h3|h3
  · exact Int.lt_trans (ih i h3 (by omega)) h2
  · have:i=j:=by omega
    subst this;exact h2
theorem JZ {s:eG} (h:aH s=true):distinct s.2.1:=by
 intro f hf g hg e
 obtain ⟨i,hi,rfl⟩:=List.getElem_of_mem hf
 obtain ⟨j,hj,rfl⟩:=List.getElem_of_mem hg
 have at_:∀ k (hk:k<s.2.1.length),fileAt s.2.1 k=s.2.1[k]:=fun k hk=>by
  unfold fileAt
  rw [List.getD_eq_getElem?_getD,List.getElem?_eq_getElem hk];rfl
 rcases Nat.lt_trichotomy i j with h1|h1|h1
 · have:=ahl h j i h1 hj
   rw [at_ i hi,at_ j hj] at this;omega
 · subst h1;rfl
 · have:=ahl h i j h1 hi
   rw [at_ i hi,at_ j hj] at this;omega
theorem ad8 {fs:List aT} {d:List aY} {r r':List eY} {nm nm':Bytes→Bool} {out:List eY} (h:iO fs d r nm out) (hn:∀ i,i<d.length→nm (nameOf d i)=nm' (nameOf d i)) (hr:∀ i,i<d.length→nm (nameOf d i)=false→gW r (nameOf d i)=gW r' (nameOf d i)):iO fs d r' nm' out:=by
 have hd:∀ s,due d nm s↔due d nm' s:=fun s=>by
  constructor
  · rintro ⟨a,i,hi,rfl⟩;exact ⟨by rw [← hn i hi];exact a,i,hi,rfl⟩
  · rintro ⟨a,i,hi,rfl⟩;exact ⟨by rw [hn i hi];exact a,i,hi,rfl⟩
 obtain ⟨aI,h1,h2⟩:=h.aI
 exact ⟨h.order,fun i hi h'=>by rw [← hn i hi] at h';rw [h.kept i hi h',hr i hi h'],fun i hi h'=>h.fix i hi (by rw [hn i hi];exact h'),aI,h1,
  fun s hs=>h2.fix s ((hd s).2 hs),fun k Y hY hp s hs=>h2.least k Y (fun t ht=>hY t fun h'=>ht ⟨(hd t).2 h'.1,h'.2⟩) (fun t ht=>hp t ((hd t).1 ht)) s ((hd s).2 hs)⟩
theorem aD0 {fs:List aT} {d:List aY} {r:List eY} {nm:Bytes→Bool} {aI:List (Int×Unit)} {k:Nat} (hd:iY d=true) (hl:mO d aI) (hf:distinct fs):∀ (n:Nat) (out:List eY),room fs.length out≤n→uM fs d r nm aI k out→∃ out',uM fs d r nm aI (k+1) out':=by
 intro n
 induction n using Nat.strongRecOn with
 |_ n ih=>
  intro out hn A
  by_cases hs:∀ i,i<d.length→nm (nameOf d i)=true→lv aI i=k→sel fs (fK d i) (bK out)=jS out i
  · exact ⟨out,at_next hd A hs⟩
  · obtain ⟨i,hi⟩:=Classical.not_forall.1 hs
    have h1:i<d.length:=Classical.byContradiction fun h=>hi fun h'=>(h h').elim
    have h2:nm (nameOf d i)=true:=Classical.byContradiction fun h=>hi fun _ h'=>(h h').elim
    have h3:lv aI i=k:=Classical.byContradiction fun h=>hi fun _ _ h'=>(h h').elim
    have h4:sel fs (fK d i) (bK out)≠jS out i:=fun h=>hi fun _ _ _=>h
    obtain ⟨g1,g2,g3⟩:=at_set hd hl hf A h1 h2 h3
    have hr:room fs.length (out.set i (nameOf d i,sel fs (fK d i) (bK out),()))<room fs.length out:=asI (by rw [A.order.1];exact h1) (g2 h4) g3
    exact ih _ (by omega) _ (Nat.le_refl _) g1
theorem avm {fs:List aT} {d:List aY} (r:List eY) (nm:Bytes→Bool) {aI:List (Int×Unit)} (hd:iY d=true) (hl:mO d aI) (hf:distinct fs):∃ out,iO fs d r nm out:=by
 have:∀ k,∃ out,uM fs d r nm aI k out:=fun k=>by
  induction k with
  |zero=>exact ⟨_,XL hd hl⟩
  |succ k ih=>
   obtain ⟨out,A⟩:=ih
   exact aD0 hd hl hf _ out (Nat.le_refl _) A
 obtain ⟨out,A⟩:=this (d.length+1)
 exact ⟨out,at_end hd hl A fun i hi=>by have:=(hl.2.1 i hi).2;omega⟩
end Sp
namespace Go.Fw
open Go
theorem aBo {α:Type} {l:List α} {lo:Nat} {news:List α} (h:lo+news.length≤l.length):(iU l lo news).length=l.length:=by
 unfold iU
 simp only [List.length_append,List.length_take,List.length_drop]
 omega
theorem azp {α:Type} {l:List α} {lo k:Nat} {news:List α} (hk:k≤lo) (h:lo≤l.length):(iU l lo news).take k=l.take k:=by
 unfold iU
 rw [List.append_assoc,List.take_append_of_le_length (by rw [List.length_take];omega),List.take_take,Nat.min_eq_left hk]
theorem eqL {α β:Type} (e:α→α→Bool) (he:∀ x y,e x y=false↔x=y) (d:α) (a b:List α) [Decidable (a=b)] (t:β) (hlen:a.length≤maxLen) {K:Bool×Unit→Prop} (hK:K (decide (a=b),())):
 bif ((a.length:Int)) !=(b.length:Int) then K (false,()) else
 ∃ (I:(Int×Unit)×Unit→Prop),∃ (μ:(Int×Unit)×Unit→Nat),I (((0:Int),()),())∧∀ (y:(Int×Unit)×Unit),I y→
   bif decide (y.fst.fst<(a.length:Int)) then
    ((0:Int)≤y.fst.fst∧y.fst.fst<(a.length:Int))∧((0:Int)≤y.fst.fst∧y.fst.fst<(b.length:Int))∧
      (bif e (a.getD (Int.toNat y.fst.fst) d) (b.getD (Int.toNat y.fst.fst) d) then K (false,())
      else t=t∧I ((IntKind.i64.wrap (y.fst.fst+(1:Int)),()),())∧μ ((IntKind.i64.wrap (y.fst.fst+(1:Int)),()),())<μ y)
   else K (true,()):=by
 rw [maxLen_eq] at hlen
 refine af (fun h=>?_) fun h=>?_
 · have h:(a.length:Int)≠b.length:=by simpa using h
   rw [decide_eq_false fun e=>h (by rw [e])] at hK
   exact hK
 · have h:(a.length:Int)=b.length:=by simpa using h
   exact aft e he d a b t hlen (by omega) (fun e=>by rw [decide_eq_false e] at hK;exact hK) fun e=>by rw [decide_eq_true e] at hK;exact hK
theorem aG4 {α β:Type} (e:α→α→Bool) (he:∀ x y,e x y=false↔x=y) (d:α) (a b:List α) [Decidable (a=b)] (t:β) (hlen:a.length≤maxLen) {K:Bool×Unit→Prop} (hK:K (decide (a=b),())):
 bif ((a.length:Int)) !=(b.length:Int) then K (false,()) else
 ∃ (I:(Int×Unit)×Unit→Prop),∃ (μ:(Int×Unit)×Unit→Nat),I (((0:Int),()),())∧∀ (y:(Int×Unit)×Unit),I y→
   bif decide (y.fst.fst<(a.length:Int)) then
    ((0:Int)≤y.fst.fst∧y.fst.fst<(a.length:Int))∧((0:Int)≤y.fst.fst∧y.fst.fst<(b.length:Int))∧True∧
      (bif e (a.getD (Int.toNat y.fst.fst) d) (b.getD (Int.toNat y.fst.fst) d) then K (false,())
      else t=t∧I ((IntKind.i64.wrap (y.fst.fst+(1:Int)),()),())∧μ ((IntKind.i64.wrap (y.fst.fst+(1:Int)),()),())<μ y)
   else K (true,()):=by
 rw [maxLen_eq] at hlen
 refine af (fun h=>?_) fun h=>?_
 · have h:(a.length:Int)≠b.length:=by simpa using h
   rw [decide_eq_false fun e=>h (by rw [e])] at hK
   exact hK
 · have h:(a.length:Int)=b.length:=by simpa using h
   exact ar0 e he d a b t hlen (by omega) (fun e=>by rw [decide_eq_false e] at hK;exact hK) fun e=>by rw [decide_eq_true e] at hK;exact hK
theorem avp {α β:Type} (p:α→Bool) (d:α) (a:List α) (t:β) (hlen:a.length≤maxLen) {K:Int×Unit→Prop} (hK:K (Sp.findAt p a,())):
 ∃ (I:(Int×Unit)×Unit→Prop),∃ (μ:(Int×Unit)×Unit→Nat),I (((0:Int),()),())∧∀ (y:(Int×Unit)×Unit),I y→
   bif decide (y.fst.fst<(a.length:Int)) then
    ((0:Int)≤y.fst.fst∧y.fst.fst<(a.length:Int))∧True∧
      (bif p (a.getD (Int.toNat y.fst.fst) d) then K (y.fst.fst,())
      else t=t∧I ((IntKind.i64.wrap (y.fst.fst+(1:Int)),()),())∧μ ((IntKind.i64.wrap (y.fst.fst+(1:Int)),()),())<μ y)
   else K ((-1:Int),()):=by
 rw [maxLen_eq] at hlen
 refine ku a.length hlen (fun n=>∀ i,i<n→p (a.getD i d)=false) (fun i hi=>by omega) (fun I μ n hn hJ next=>?_) fun I μ hJ=>?_
 · dsimp only
   refine dW (by omega) ⟨⟨by omega,by omega⟩,trivial,af (fun h=>?_) fun h=>⟨rfl,next fun i hi=>?_⟩⟩
   · rw [Sp.azy hn hJ h] at hK;exact hK
   · rcases Nat.lt_or_ge i n with h'|h'
     · exact hJ i h'
     · have:i=n:=by omega
       rw [this];exact h
 · dsimp only
   refine dX (by omega) ?_
   rw [Sp.aqA hJ] at hK;exact hK
theorem aET {α β:Type} (p:α→Bool) (d:α) (a:List α) (t:β) (hlen:a.length≤maxLen) {K:Int×Unit→Prop} (hK:K (Sp.findAt p a,())):
 ∃ (I:(Int×Unit)×Unit→Prop),∃ (μ:(Int×Unit)×Unit→Nat),I (((0:Int),()),())∧∀ (y:(Int×Unit)×Unit),I y→
   bif decide (y.fst.fst<(a.length:Int)) then
    ((0:Int)≤y.fst.fst∧y.fst.fst<(a.length:Int))∧
      (bif p (a.getD (Int.toNat y.fst.fst) d) then K (y.fst.fst,())
      else t=t∧I ((IntKind.i64.wrap (y.fst.fst+(1:Int)),()),())∧μ ((IntKind.i64.wrap (y.fst.fst+(1:Int)),()),())<μ y)
   else K ((-1:Int),()):=by
 obtain ⟨I,μ,h0,h1⟩:=avp p d a t hlen hK
 refine ⟨I,μ,h0,fun y hy=>?_⟩
 have:=h1 y hy
 revert this
 cases decide (y.fst.fst<(a.length:Int)) with
 |true=>exact fun h=>⟨h.1,h.2.2⟩
 |false=>exact id
theorem aGy {α β:Type} (p:α→Bool) (d:α) (s:List α) (t:β) (hlen:s.length≤4611686018427387903) {K:(List α×Unit)×Unit→Prop} (hK:K ((s.filter fun x=>!p x,()),())):
 bif Sp.findAt p s==(-1:Int) then K ((s,()),()) else
 ∃ (I:(Int×Int×Unit)×List α×Unit→Prop),∃ (μ:(Int×Int×Unit)×List α×Unit→Nat),
   I ((Sp.findAt p s,IntKind.i64.wrap (Sp.findAt p s+(1:Int)),()),s,())∧∀ (y:(Int×Int×Unit)×List α×Unit),I y→
     bif decide (y.fst.snd.fst<(↑(List.length y.snd.fst):Int)) then
      ((0:Int)≤y.fst.snd.fst∧y.fst.snd.fst<(↑(List.length y.snd.fst):Int))∧Int.toNat y.fst.snd.fst<List.length y.snd.fst∧True∧
        (bif !p (List.getD y.snd.fst (Int.toNat y.fst.snd.fst) d) then
          ((0:Int)≤y.fst.fst∧y.fst.fst<(↑(List.length y.snd.fst):Int))∧Int.toNat y.fst.fst<List.length y.snd.fst∧t=t∧
            I ((IntKind.i64.wrap (y.fst.fst+(1:Int)),IntKind.i64.wrap (y.fst.snd.fst+(1:Int)),()),List.set y.snd.fst (Int.toNat y.fst.fst) (List.getD y.snd.fst (Int.toNat y.fst.snd.fst) d),())∧
            μ ((IntKind.i64.wrap (y.fst.fst+(1:Int)),IntKind.i64.wrap (y.fst.snd.fst+(1:Int)),()),List.set y.snd.fst (Int.toNat y.fst.fst) (List.getD y.snd.fst (Int.toNat y.fst.snd.fst) d),())<μ y
        else t=t∧I ((y.fst.fst,IntKind.i64.wrap (y.fst.snd.fst+(1:Int)),()),y.snd.fst,())∧μ ((y.fst.fst,IntKind.i64.wrap (y.fst.snd.fst+(1:Int)),()),y.snd.fst,())<μ y)
     else
      (0:Nat)<List.length y.snd.fst∧((0:Int)≤y.fst.fst∧y.fst.fst≤(↑(List.length y.snd.fst):Int))∧
        (0:Nat)+Int.toNat y.fst.fst+(List.length y.snd.fst-Int.toNat y.fst.fst)≤List.length y.snd.fst∧
          ((0:Nat)<(iU y.snd.fst ((0:Nat)+Int.toNat y.fst.fst) (List.replicate (List.length y.snd.fst-Int.toNat y.fst.fst) d)).length∧
            List.length y.snd.fst≤(iU y.snd.fst ((0:Nat)+Int.toNat y.fst.fst) (List.replicate (List.length y.snd.fst-Int.toNat y.fst.fst) d)).length)∧
            ((0:Int)≤y.fst.fst∧y.fst.fst≤(↑(List.take (List.length y.snd.fst) (iU y.snd.fst ((0:Nat)+Int.toNat y.fst.fst) (List.replicate (List.length y.snd.fst-Int.toNat y.fst.fst) d))).length:Int))∧
              K ((List.take (Int.toNat y.fst.fst) (List.take (List.length y.snd.fst) (iU y.snd.fst ((0:Nat)+Int.toNat y.fst.fst) (List.replicate (List.length y.snd.fst-Int.toNat y.fst.fst) d))),()),()):=by
 rcases Sp.amV p d s with ⟨e,hno⟩|⟨n,hn,e,he,hne⟩
 · rw [e]
   have:s.filter (fun x=>!p x)=s:=List.filter_eq_self.2 fun x hx=>by
    obtain ⟨i,hi,rfl⟩:=List.getElem_of_mem hx
    have:=hno i hi
    rw [List.getD_eq_getElem?_getD,List.getElem?_eq_getElem hi] at this
    exact congrArg Bool.not this
   rw [this] at hK
   exact hK
 · rw [e]
   have e1:(((n:Nat):Int)==-1)=false:=by rw [beq_eq_false_iff_ne];omega
   rw [e1]
   have w1:∀ k:Nat,k≤4611686018427387903→IntKind.i64.wrap ((k:Int)+1)=((k+1:Nat):Int):=fun k hk=>iL _ (by omega)
   rw [w1 n (by omega)]
   refine ⟨fun y=>∃ (i j:Nat) (l:List α),y=(((i:Int),(j:Int),()),l,())∧i<j∧j≤s.length∧l.length=s.length∧l.take i=(s.take j).filter (fun x=>!p x)∧∀ t,j≤t→l.getD t d=s.getD t d,
    fun y=>((s.length:Int)-y.1.2.1).toNat,⟨n,n+1,s,rfl,by omega,by omega,rfl,?_,fun _ _=>rfl⟩,?_⟩
   · rw [Sp.take_succ' s n d hn,List.filter_append,List.filter_cons]
     have h1:(!p (s.getD n d))=false:=congrArg Bool.not he
     rw [h1]
     have h2:(s.take n).filter (fun x=>!p x)=s.take n:=List.filter_eq_self.2 fun x hx=>by
      obtain ⟨i,hi,rfl⟩:=List.getElem_of_mem hx
      have hi':i<n:=by rw [List.length_take] at hi;omega
      have:=hne i hi'
      rw [List.getD_eq_getElem?_getD,List.getElem?_eq_getElem (by omega)] at this
      rw [List.getElem_take]
      exact congrArg Bool.not this
     rw [h2];simp
   · rintro y ⟨i,j,l,rfl,hij,hj,hl,ht,hs⟩
     dsimp only
     refine af (fun h=>?_) fun h=>?_
     · have h:j<s.length:=by have h:=of_decide_eq_true h;omega
       have hsj:=hs j (Nat.le_refl _)
       rw [Int.toNat_natCast,Int.toNat_natCast,hsj,w1 i (by omega),w1 j (by omega)]
       refine ⟨⟨by omega,by omega⟩,by omega,trivial,af (fun h2=>⟨⟨by omega,by omega⟩,by omega,rfl,⟨i+1,j+1,_,rfl,by omega,by omega,by rw [List.length_set];exact hl,?_,fun t ht=>?_⟩,by omega⟩) fun h2=>⟨rfl,⟨i,j+1,l,rfl,by omega,by omega,hl,?_,fun t ht=>hs t (by omega)⟩,by omega⟩⟩
       · rw [Sp.take_succ' _ i d (by rw [List.length_set];omega),Sp.take_succ' s j d h,List.filter_append,List.filter_cons,List.take_set_of_le (Nat.le_refl _),ht]
         have h3:(!p (s.getD j d))=true:=h2
         rw [h3,List.getD_eq_getElem?_getD,List.getElem?_set,if_pos rfl,if_pos (by omega)]
         rfl
       · rw [List.getD_eq_getElem?_getD,List.getElem?_set,if_neg (by omega),← List.getD_eq_getElem?_getD]
         exact hs t (by omega)
       · rw [Sp.take_succ' s j d h,List.filter_append,List.filter_cons,ht]
         have h3:(!p (s.getD j d))=false:=h2
         rw [h3];simp
     · have h:j=s.length:=by have h:=of_decide_eq_false h;omega
       rw [Int.toNat_natCast,Nat.zero_add]
       have l1:(iU l i (List.replicate (l.length-i) d)).length=l.length:=aBo (by rw [List.length_replicate];omega)
       refine ⟨by omega,⟨by omega,by omega⟩,by omega,⟨by rw [l1];omega,by rw [l1];omega⟩,⟨by omega,by rw [List.length_take,l1];omega⟩,?_⟩
       rw [List.take_take,Nat.min_eq_left (by omega),azp (Nat.le_refl _) (by omega),ht,h,List.take_length]
       exact hK
end Go.Fw
namespace Go.Fw
open Go
theorem aFC {α β:Type} (p:α→Bool) (d:α) (a:List α) (t:β) (hlen:a.length≤maxLen) {K:Bool×Unit→Prop} (hK:K (a.any p,())):
 ∃ (I:(Int×Unit)×Unit→Prop),∃ (μ:(Int×Unit)×Unit→Nat),I (((0:Int),()),())∧∀ (y:(Int×Unit)×Unit),I y→
   bif decide (y.fst.fst<(a.length:Int)) then
    ((0:Int)≤y.fst.fst∧y.fst.fst<(a.length:Int))∧
      (bif p (a.getD (Int.toNat y.fst.fst) d) then K (true,())
      else t=t∧I ((IntKind.i64.wrap (y.fst.fst+(1:Int)),()),())∧μ ((IntKind.i64.wrap (y.fst.fst+(1:Int)),()),())<μ y)
   else K (false,()):=by
 rw [maxLen_eq] at hlen
 refine ku a.length hlen (fun n=>∀ i,i<n→p (a.getD i d)=false) (fun i hi=>by omega) (fun I μ n hn hJ next=>?_) fun I μ hJ=>?_
 · dsimp only
   refine dW (by omega) ⟨⟨by omega,by omega⟩,af (fun h=>?_) fun h=>⟨rfl,next fun i hi=>?_⟩⟩
   · have:a.any p=true:=List.any_eq_true.2 ⟨a.getD n d,by rw [List.getD_eq_getElem?_getD,List.getElem?_eq_getElem hn];exact List.getElem_mem hn,h⟩
     rw [this] at hK;exact hK
   · rcases Nat.lt_or_ge i n with h'|h'
     · exact hJ i h'
     · have:i=n:=by omega
       rw [this];exact h
 · dsimp only
   refine dX (by omega) ?_
   have:a.any p=false:=by
    rw [List.any_eq_false]
    intro x hx
    obtain ⟨i,hi,rfl⟩:=List.getElem_of_mem hx
    have:=hJ i hi
    rw [List.getD_eq_getElem?_getD,List.getElem?_eq_getElem hi] at this
    simpa using this
   rw [this] at hK;exact hK
theorem ag3 {α:Type} (p:α→Bool) (s:List α):decide (Sp.findAt p s≥0)=s.any p:=by
 cases hs:s with
 |nil=>rfl
 |cons d r=>
  rw [← hs]
  rcases Sp.amV p d s with ⟨e,h⟩|⟨n,hn,e,h1,h2⟩
  · rw [e,decide_eq_false (by omega)]
    symm
    rw [List.any_eq_false]
    intro x hx
    obtain ⟨i,hi,rfl⟩:=List.getElem_of_mem hx
    have:=h i hi
    rw [List.getD_eq_getElem?_getD,List.getElem?_eq_getElem hi] at this
    simpa using this
  · rw [e,decide_eq_true (by omega)]
    symm
    exact List.any_eq_true.2 ⟨s.getD n d,by rw [List.getD_eq_getElem?_getD,List.getElem?_eq_getElem hn];exact List.getElem_mem hn,h1⟩
theorem lY {α:Type} (p:α→Bool) (d:α) (l:List α) {n:Nat} (h:n<l.length):(l.take (n+1)).filter p=(l.take n).filter p++(bif p (l.getD n d) then [l.getD n d] else []):=by
 rw [Sp.take_succ' l n d h,List.filter_append,List.filter_cons]
 cases p (l.getD n d)<;>rfl
theorem asf {α β δ:Type} (p:α→Bool) (g:α→β) (d:α) (a:List α) (t:δ) {A:Int→Prop} (hA:∀ n:Nat,n<a.length→A n) (hlen:a.length≤4000000) {K:List β×Unit→Prop} (hK:K ((a.filter p).map g,())):
 ∃ (I:(Unit×Int×Unit)×List β×Unit→Prop),∃ (μ:(Unit×Int×Unit)×List β×Unit→Nat),I (((),(0:Int),()),[],())∧∀ (y:(Unit×Int×Unit)×List β×Unit),I y→
   bif decide (y.1.2.1<(a.length:Int)) then
    ((0:Int)≤y.1.2.1∧y.1.2.1<(a.length:Int))∧A y.1.2.1∧
      (bif p (a.getD (Int.toNat y.1.2.1) d) then List.length y.2.1+1≤big∧t=t∧I (((),IntKind.i64.wrap (y.1.2.1+(1:Int)),()),y.2.1++[g (a.getD (Int.toNat y.1.2.1) d)],())∧μ (((),IntKind.i64.wrap (y.1.2.1+(1:Int)),()),y.2.1++[g (a.getD (Int.toNat y.1.2.1) d)],())<μ y
      else t=t∧I (((),IntKind.i64.wrap (y.1.2.1+(1:Int)),()),y.2)∧μ (((),IntKind.i64.wrap (y.1.2.1+(1:Int)),()),y.2)<μ y)
   else K y.2:=by
 refine eX (fun i (x:List β)=>(((),i,()),x,())) (fun y=>y.1.2.1) (fun _ _=>rfl) a.length (by omega) (fun n l=>l=((a.take n).filter p).map g) (by simp) (fun I μ n l hn hJ next=>?_) fun I μ l hJ=>?_
 · subst hJ
   have hl:(((a.take n).filter p).map g).length≤n:=by
    have:=List.length_filter_le p (a.take n)
    rw [List.length_map];rw [List.length_take] at this;omega
   have step:=lY p d a hn
   dsimp only
   refine dW (by omega) ⟨⟨by omega,by omega⟩,hA n hn,af (fun h=>⟨by rw [dS];omega,rfl,next _ ?_⟩) fun h=>⟨rfl,next _ ?_⟩⟩
   · have h:p (a.getD n d)=true:=h
     rw [step,h,List.map_append];rfl
   · have h:p (a.getD n d)=false:=h
     rw [step,h,List.map_append];simp
 · subst hJ
   dsimp only
   refine dX (by omega) ?_
   rw [List.take_length];exact hK
theorem aBw {α β δ:Type} (g:α→β) (d:α) (a:List α) (t:δ) (hlen:a.length≤4000000) {K:List β×Unit→Prop} (hK:K (a.map g,())):
 ∃ (I:(Unit×Int×Unit)×List β×Unit→Prop),∃ (μ:(Unit×Int×Unit)×List β×Unit→Nat),I (((),(0:Int),()),[],())∧∀ (y:(Unit×Int×Unit)×List β×Unit),I y→
   bif decide (y.1.2.1<(a.length:Int)) then
    ((0:Int)≤y.1.2.1∧y.1.2.1<(a.length:Int))∧
      List.length y.2.1+1≤big∧t=t∧I (((),IntKind.i64.wrap (y.1.2.1+(1:Int)),()),y.2.1++[g (a.getD (Int.toNat y.1.2.1) d)],())∧μ (((),IntKind.i64.wrap (y.1.2.1+(1:Int)),()),y.2.1++[g (a.getD (Int.toNat y.1.2.1) d)],())<μ y
   else K y.2:=by
 obtain ⟨I,μ,h0,h1⟩:=asf (fun _=>true) g d a t (A:=fun _=>True) (fun _ _=>trivial) hlen (K:=K) (by rw [List.filter_eq_self.2 fun _ _=>rfl];exact hK)
 refine ⟨I,μ,h0,fun y hy=>?_⟩
 have:=h1 y hy
 revert this
 cases decide (y.1.2.1<(a.length:Int)) with
 |true=>exact fun h=>⟨h.1,h.2.2⟩
 |false=>exact id
end Go.Fw
namespace Sp
open Go
theorem XA {d:List aY} {out:List eY} (ho:Bg d out) {s:Bytes} (hs:¬ ∃ i,i<d.length∧nameOf d i=s) (x:Int):bK out s x=false:=by
 unfold bK
 rw [YE ho fun i hi e=>hs ⟨i,hi,e⟩];rfl
theorem incr {fs fs':List aT} {d d':List aY} {old R E:List eY} {nm:Bytes→Bool} (hd:iY d=true) (hd':iY d'=true)
 (h1:iO fs d [] (fun _=>true) old) (h2:iO fs' d' old nm R) (h3:iO fs' d' [] (fun _=>true) E)
 (hcl:∀ i,i<d'.length→nm (nameOf d' i)=false→(∃ j,j<d.length∧nameOf d j=nameOf d' i∧fK d j=fK d' i)∧(∀ X,sel fs (fK d' i) X=sel fs' (fK d' i) X)∧∀ b,∀ s∈fP (fK d' i) b,nm s=false)
 (hsub:∀ j,j<d.length→∃ i,i<d'.length∧nameOf d' i=nameOf d j):R=E:=by
 obtain ⟨l1,hl1,e1⟩:=h1.aI
 obtain ⟨l2,hl2,e2⟩:=h2.aI
 obtain ⟨l3,hl3,e3⟩:=h3.aI
 have out1:∀ s,(¬ ∃ i,i<d'.length∧nameOf d' i=s)→∀ x,bK old s x=false:=fun s hs x=>
  XA h1.order (fun ⟨j,hj,e⟩=>by obtain ⟨i,hi,e'⟩:=hsub j hj;exact hs ⟨i,hi,e'.trans e⟩) x
 have aIO:=aek (U:=fun s=>nm s=false∧∃ i,i<d'.length∧nameOf d' i=s) e1 e3 (SI hd hl1 _) (SI hd' hl3 _)
  (fun s ⟨hn,i,hi,e⟩=>by subst e;obtain ⟨j,hj,e,_⟩:=(hcl i hi hn).1;exact ⟨rfl,j,hj,e⟩) (fun s ⟨_,hs⟩=>⟨rfl,hs⟩)
  (fun s ⟨hn,i,hi,e⟩ X x=>by
    subst e
    obtain ⟨⟨j,hj,e,eq⟩,hsel,_⟩:=hcl i hi hn
    rw [an6 hd' hi,← e,an6 hd hj,eq,hsel X])
  (fun s ⟨hn,i,hi,e⟩ t ⟨i2,hi2,e2,ht⟩=>by
    subst e
    obtain ⟨⟨j,hj,e,eq⟩,_⟩:=hcl i hi hn
    have:=SH hd' hi2 hi e2
    subst this
    exact ⟨j,hj,e,by unfold fK at eq;rw [eq];exact ht⟩)
  (fun s ⟨hn,i,hi,e⟩ t ⟨i2,hi2,e2,ht⟩=>by
    subst e
    obtain ⟨⟨j,hj,e,eq⟩,_⟩:=hcl i hi hn
    have:=SH hd' hi2 hi e2
    subst this
    exact ⟨j,hj,e,by unfold fK at eq;rw [eq];exact ht⟩)
  (fun s ⟨hn,i,hi,e⟩ t ht=>by
    subst e
    obtain ⟨⟨j,hj,e,eq⟩,_,aD1⟩:=hcl i hi hn
    have hnt:nm t=false:=by
     rcases ht with ⟨j2,hj2,e2,ht⟩|⟨j2,hj2,e2,ht⟩
     · have:=SH hd hj2 hj (e2.trans e.symm)
       subst this
       exact aD1 false t (by rw [← eq];exact ht)
     · have:=SH hd hj2 hj (e2.trans e.symm)
       subst this
       exact aD1 true t (by rw [← eq];exact ht)
    by_cases hin:∃ i,i<d'.length∧nameOf d' i=t
    · exact .inl ⟨hnt,hin⟩
    · exact .inr fun x=>by rw [out1 t hin,XA h3.order hin])
 have off:∀ s,nm s=false→∀ x,bK old s x=bK E s x:=fun s hn x=>by
  by_cases hin:∃ i,i<d'.length∧nameOf d' i=s
  · exact aIO s ⟨hn,hin⟩ x
  · rw [out1 s hin,XA h3.order hin]
 have aIP:=aek (U:=due d' nm) e2 e3 (SI hd' hl2 _) (SI hd' hl3 _) (fun _ h=>h) (fun s ⟨_,h⟩=>⟨rfl,h⟩) (fun _ _ _ _=>Iff.rfl) (fun _ _ _ h=>h) (fun _ _ _ h=>h)
  fun s _ t _=>by
   by_cases ht:due d' nm t
   · exact .inl ht
   · refine .inr fun x=>?_
     by_cases hin:∃ i,i<d'.length∧nameOf d' i=t
     · obtain ⟨i,hi,rfl⟩:=hin
       have hn:nm (nameOf d' i)=false:=by rw [Bool.eq_false_iff];exact fun hn=>ht ⟨hn,i,hi,rfl⟩
       rw [← off _ hn]
       unfold bK
       rw [Dq hd' h2.order hi,h2.kept i hi hn]
     · rw [XA h2.order hin,XA h3.order hin]
 have all:∀ s x,bK R s x=bK E s x:=fun s x=>by
  by_cases hs:due d' nm s
  · exact aIP s hs x
  · by_cases hin:∃ i,i<d'.length∧nameOf d' i=s
    · obtain ⟨i,hi,rfl⟩:=hin
      have hn:nm (nameOf d' i)=false:=by rw [Bool.eq_false_iff];exact fun hn=>hs ⟨hn,i,hi,rfl⟩
      rw [← off _ hn]
      unfold bK
      rw [Dq hd' h2.order hi,h2.kept i hi hn]
    · rw [XA h2.order hin,XA h3.order hin]
 refine aCW h2.order h3.order fun i hi=>?_
 cases hn:nm (nameOf d' i) with
 |true=>
  rw [h2.fix i hi hn,h3.fix i hi rfl]
  exact amS fun _ s _ x=>all s x
 |false=>
  obtain ⟨⟨j,hj,e,eq⟩,hsel,aD1⟩:=hcl i hi hn
  rw [h2.kept i hi hn,← e,Dq hd h1.order hj,h1.fix j hj rfl,h3.fix i hi rfl,eq,hsel]
  exact amS fun b s hs x=>off s (aD1 b s hs) x
theorem XB:∀ {l:List gZ} {s:Bytes},(∀ a∈l,a.1≠s)→dF l s=(0,0,[],())
 |[],_,_=>rfl
 |x::r,s,h=>by
  rw [dF,beq_eq_false_iff_ne.2 (h x List.mem_cons_self)]
  exact XB fun a ha=>h a (List.mem_cons_of_mem _ ha)
theorem aE9 {f g:aT} {t:Bytes} (h:t ∉ jU f g):dF f.2.2.2.2.1 t=dF g.2.2.2.2.1 t:=by
 by_cases hm:t∈(f.2.2.2.2.1++g.2.2.2.2.1).map fun a=>a.1
 · refine Classical.byContradiction fun hne=>h ?_
   unfold jU
   rw [List.mem_filter]
   exact ⟨hm,by rw [decide_eq_false hne];rfl⟩
 · have:∀ a∈f.2.2.2.2.1++g.2.2.2.2.1,a.1≠t:=fun a ha e=>hm (List.mem_map.2 ⟨a,ha,e⟩)
   rw [XB fun a ha=>this a (List.mem_append.2 (.inl ha)),XB fun a ha=>this a (List.mem_append.2 (.inr ha))]
theorem asK {q:List bY} {a:Nat} (h:(nodeAt q a).1≠0):nodeAt q a∈q:=by
 unfold nodeAt at h ⊢
 rw [List.getD_eq_getElem?_getD] at h ⊢
 by_cases ha:a<q.length
 · rw [List.getElem?_eq_getElem ha];exact List.getElem_mem ha
 · rw [List.getElem?_eq_none (by omega)] at h;exact (h rfl).elim
theorem aFa {q:List bY} {a:Nat} {f g:aT} {X:BX} (hid:f.1=g.1) (hat:∀ t∈mY q,dF f.2.2.2.2.1 t=dF g.2.2.2.2.1 t) (hlk:linked q=true→f.2.2.2.1=g.2.2.2.1):jV (nodeAt q a) f X=jV (nodeAt q a) g X:=by
 have at_:(nodeAt q a).1=2∨(nodeAt q a).1=3∨(nodeAt q a).1=4→dF f.2.2.2.2.1 (nodeAt q a).2.2.2.1=dF g.2.2.2.2.1 (nodeAt q a).2.2.2.1:=fun h=>by
  refine hat _ ?_
  unfold mY
  rw [List.mem_map]
  refine ⟨nodeAt q a,List.mem_filter.2 ⟨asK (by omega),?_⟩,rfl⟩
  simp only [Bool.or_eq_true,beq_iff_eq];exact h
 unfold jV
 by_cases h2:(nodeAt q a).1=2
 · rw [at_ (.inl h2),beq_iff_eq.2 h2];rfl
 rw [beq_eq_false_iff_ne.2 h2]
 by_cases h3:(nodeAt q a).1=3
 · rw [at_ (.inr (.inl h3)),beq_iff_eq.2 h3];rfl
 rw [beq_eq_false_iff_ne.2 h3]
 by_cases h4:(nodeAt q a).1=4
 · rw [at_ (.inr (.inr h4)),beq_iff_eq.2 h4];rfl
 rw [beq_eq_false_iff_ne.2 h4]
 by_cases h8:(nodeAt q a).1=8
 · rw [beq_iff_eq.2 h8,hid]
   show (bif false then _ else _)=_
   rfl
 rw [beq_eq_false_iff_ne.2 h8]
 by_cases h9:(nodeAt q a).1=9
 · have:linked q=true:=by
    unfold linked
    exact List.any_eq_true.2 ⟨_,asK (by omega),beq_iff_eq.2 h9⟩
   rw [beq_iff_eq.2 h9,hlk this];rfl
 rw [beq_eq_false_iff_ne.2 h9];rfl
theorem aFM {q:List bY} {f g:aT} {X:BX} (hid:f.1=g.1) (hat:∀ t∈mY q,dF f.2.2.2.2.1 t=dF g.2.2.2.2.1 t) (hlk:linked q=true→f.2.2.2.1=g.2.2.2.1):∀ a,val q f X a=val q g X a:=by
 intro a
 induction a using Nat.strongRecOn with
 |_ a ih=>
  rw [YA q f X a,YA q g X a]
  split
  · split
    · next h=>rw [ih _ h]
    · rfl
  · split
    · split
      · next h=>rw [ih _ h.1,ih _ h.2]
      · rfl
    · split
      · split
        · next h=>rw [ih _ h.1,ih _ h.2]
        · rfl
      · exact aFa hid hat hlk
theorem aFb {q:List bY} {b:Bool} {s:Bytes} (h:s∈fP q b):s∈sQ q:=by
 unfold fP at h
 rw [List.mem_filterMap] at h
 obtain ⟨i,hi,e⟩:=h
 cases hc:lN (nodeAt q i)&&((negated q).getD i (false,())).1==b with
 |false=>rw [hc] at e;cases e
 |true=>
  rw [hc] at e
  rw [Bool.and_eq_true] at hc
  have e:(nodeAt q i).2.2.2.1=s:=Option.some.inj e
  unfold sQ
  rw [List.mem_map]
  refine ⟨nodeAt q i,List.mem_filter.2 ⟨asK fun h0=>?_,hc.1⟩,e⟩
  have:=hc.1
  unfold lN at this
  rw [h0] at this
  cases this
theorem aGF {fs:List aT} {q:List bY} {X:BX} {n:Nat} {g:aT} (hn:n<fs.length) (hid:(fileAt fs n).1=g.1) (hm:jC q (fileAt fs n) X=jC q g X):sel (fs.set n g) q X=sel fs q X:=by
 have form:∀ l:List aT,sel l q X=(l.map fun f=>(jC q f X,f.1)).filterMap fun p=>bif p.1 then some (p.2,()) else none:=fun l=>by
  unfold sel
  induction l with
  |nil=>rfl
  |cons f r ih=>
   rw [List.map_cons,List.filterMap_cons]
   cases h:jC q f X with
   |true=>rw [List.filter_cons_of_pos (p:=fun f=>jC q f X) h,List.map_cons,ih];rfl
   |false=>rw [List.filter_cons_of_neg (p:=fun f=>jC q f X) (by simp [h]),ih];rfl
 rw [form,form,List.map_set]
 congr 1
 have hat:fileAt fs n=fs[n]:=by unfold fileAt;rw [List.getD_eq_getElem?_getD,List.getElem?_eq_getElem hn];rfl
 rw [hat] at hid hm
 have:(jC q g X,g.1)=(fs.map fun f=>(jC q f X,f.1))[n]'(by rw [List.length_map];exact hn):=by rw [List.getElem_map,hm,hid]
 rw [this,List.set_getElem_self]
theorem aFF {fs:List aT} {d:List aY} {n:Nat} {g:aT} {old R E:List eY} (hd:iY d=true) (hn:n<fs.length) (hid:(fileAt fs n).1=g.1)
 (h1:iO fs d [] (fun _=>true) old) (h2:iO (fs.set n g) d old (ax6 d (fileAt fs n) g) R) (h3:iO (fs.set n g) d [] (fun _=>true) E):R=E:=by
 have aFN:∀ s,ax6 d (fileAt fs n) g s=true↔Aff d (fileAt fs n) g s:=fun s=>@decide_eq_true_iff _ (Classical.propDecidable _)
 refine incr hd hd h1 h2 h3 (fun i hi hna=>⟨⟨i,hi,rfl,rfl⟩,fun X=>?_,fun b s hs=>?_⟩) fun j hj=>⟨j,hj,rfl⟩
 · have hna:¬ Aff d (fileAt fs n) g (nameOf d i):=fun h=>by rw [(aFN _).2 h] at hna;cases hna
   have hnt:¬ Xv d (fileAt fs n) g (nameOf d i):=fun h=>hna (.base h)
   refine (aGF hn hid ?_).symm
   unfold jC
   rw [aFM hid (fun t ht=>?_) fun hl=>?_]
   · exact aE9 fun hc=>hnt ⟨i,hi,rfl, .inr (.inl ⟨t,ht,hc⟩)⟩
   · exact Classical.byContradiction fun hne=>hnt ⟨i,hi,rfl, .inr (.inr ⟨hl,hne⟩)⟩
 · rw [Bool.eq_false_iff]
   intro hs'
   have:=(aFN s).1 hs'
   have h':Aff d (fileAt fs n) g (nameOf d i):= .step this hi (aFb hs)
   rw [(aFN _).2 h'] at hna;cases hna
end Sp
namespace Sp
open Go
def aD2 (as:List gZ):Prop:=as.Pairwise fun x y=>Op.bytesLess x.1 y.1=true
theorem aBK {α:Type} {R:α→α→Prop} (ht:∀ a b c,R a b→R b c→R a c) (d:α):∀ (l:List α),(∀ i,i+1<l.length→R (l.getD i d) (l.getD (i+1) d))→l.Pairwise R
 |[],_=>List.Pairwise.nil
 |[x],_=>List.pairwise_singleton _ _
 |x::y::r,h=>by
  have ih:=aBK ht d (y::r) fun i hi=>h (i+1) (by simpa using hi)
  have h0:R x y:=h 0 (by simp)
  refine List.pairwise_cons.2 ⟨fun z hz=>?_,ih⟩
  rcases List.mem_cons.1 hz with rfl|hz
  · exact h0
  · exact ht _ _ _ h0 ((List.pairwise_cons.1 ih).1 z hz)
theorem aem {fs:List iZ} {as:List gZ}:mW fs as=true↔(∀ a∈as,jh fs a.1 a.2.1 a.2.2.1 a.2.2.2.1=true)∧aD2 as:=by
 have at_:∀ i (hi:i<as.length),dB as i=as[i]:=fun i hi=>by unfold dB;rw [List.getD_eq_getElem?_getD,List.getElem?_eq_getElem hi];rfl
 unfold mW
 rw [show (l9 as.length (nI fs as)=true)↔∀ i,i<as.length→nI fs as i=true from by
  unfold l9
  rw [List.all_eq_true]
  exact ⟨fun h i hi=>h i (List.mem_range.2 hi),fun h i hi=>h i (List.mem_range.1 hi)⟩]
 have one:∀ i,nI fs as i=true↔jh fs (dB as i).1 (dB as i).2.1 (dB as i).2.2.1 (dB as i).2.2.2.1=true∧(0<i→Op.bytesLess (dB as (i-1)).1 (dB as i).1=true):=fun i=>by
  unfold nI
  rw [Bool.and_eq_true]
  refine and_congr_right fun _=>?_
  by_cases h0:0<i
  · rw [decide_eq_true h0];simp [h0]
  · rw [decide_eq_false h0];simp [h0]
 constructor
 · intro h
   refine ⟨fun a ha=>?_,?_⟩
   · obtain ⟨i,hi,rfl⟩:=List.getElem_of_mem ha
     have:=((one i).1 (h i hi)).1
     rw [at_ i hi] at this;exact this
   · refine aBK (R:=fun x y:gZ=>Op.bytesLess x.1 y.1=true) (fun a b c h1 h2=>Ph _ _ _ h1 h2) ([],0,0,[],()) as fun i hi=>?_
     exact ((one (i+1)).1 (h (i+1) hi)).2 (by omega)
 · rintro ⟨h1,h2⟩ i hi
   refine (one i).2 ⟨?_,fun h0=>?_⟩
   · rw [at_ i hi];exact h1 _ (List.getElem_mem hi)
   · rw [at_ i hi,at_ (i-1) (by omega)]
     exact List.pairwise_iff_getElem.1 h2 (i-1) i (by omega) hi (by omega)
theorem adD {α:Type} {p:α→Bool}:∀ {l:List α} {x:α},x∈l.takeWhile p→p x=true∧x∈l
 |[],_,h=>by cases h
 |y::r,x,h=>by
  rw [List.takeWhile_cons] at h
  split at h
  · next hp=>
    rcases List.mem_cons.1 h with rfl|h
    · exact ⟨hp,List.mem_cons_self⟩
    · exact ⟨(adD h).1,List.mem_cons_of_mem _ (adD h).2⟩
  · cases h
theorem aCd {fs:List iZ} {as:List gZ} {name:Bytes} {k n:Int} {s:Bytes} (h:mW fs as=true) (hm:jh fs name k n s=true) (hk:k≠0):mW fs (jQ as name k n s)=true:=by
 obtain ⟨h1,h2⟩:=aem.1 h
 unfold jQ
 rw [decide_eq_false hk]
 show mW fs (an1 (as.filter (lX name)) (name,k,n,s,()))=true
 have g1:∀ a∈as.filter (lX name),jh fs a.1 a.2.1 a.2.2.1 a.2.2.2.1=true∧a.1≠name:=fun a ha=>by
  obtain ⟨x,y⟩:=List.mem_filter.1 ha
  refine ⟨h1 a x,?_⟩
  unfold lX at y
  simpa using y
 have g2:aD2 (as.filter (lX name)):=List.Pairwise.filter _ h2
 generalize as.filter (lX name)=l at g1 g2
 unfold an1
 have e:=List.takeWhile_append_dropWhile (p:=lF name) (l:=l)
 have g2':=g2
 unfold aD2 at g2'
 rw [← e,List.pairwise_append] at g2'
 have lo:∀ a∈l.takeWhile (lF name),Op.bytesLess a.1 name=true:=fun a ha=>by
  obtain ⟨x,y⟩:=adD ha
  unfold lF at x
  rw [Bool.or_eq_true] at x
  rcases x with x|x
  · exact x
  · exact ((g1 a y).2 (beq_iff_eq.1 x)).elim
 have hi:∀ a∈l.dropWhile (lF name),Op.bytesLess name a.1=true:=by
  have hd:=g2'.2.1
  cases hl:l.dropWhile (lF name) with
  |nil=>exact fun a ha=>by cases ha
  |cons y r=>
   have hy:lF name y=false:=by
    have:=List.head_dropWhile_not (lF name) (l:=l) (by rw [hl];simp)
    simp only [hl,List.head_cons] at this
    exact this
   have hy:Op.bytesLess name y.1=true:=by
    have:=aFK y.1 name
    unfold lF at hy
    rw [hy] at this;exact this.symm
   rw [hl] at hd
   intro a ha
   rcases List.mem_cons.1 ha with rfl|ha
   · exact hy
   · exact Ph _ _ _ hy ((List.pairwise_cons.1 hd).1 a ha)
 refine aem.2 ⟨fun a ha=>?_,?_⟩
 · rcases List.mem_append.1 ha with ha|ha
   · exact (g1 a (adD ha).2).1
   · rcases List.mem_cons.1 ha with rfl|ha
     · exact hm
     · exact (g1 a (List.dropWhile_sublist _|>.subset ha)).1
 · unfold aD2
   rw [List.pairwise_append]
   refine ⟨g2'.1,List.pairwise_cons.2 ⟨hi,g2'.2.1⟩,fun a ha b hb=>?_⟩
   rcases List.mem_cons.1 hb with rfl|hb
   · exact lo a ha
   · exact g2'.2.2 a ha b hb
theorem aBL {α:Type} [BEq α] [LawfulBEq α]:∀ (a b:List α),a.Nodup→(∀ x∈a,x∈b)→a.length≤b.length
 |[],_,_,_=>Nat.zero_le _
 |x::r,b,hn,h=>by
  rw [List.nodup_cons] at hn
  have hx:=h x List.mem_cons_self
  have ih:=aBL r (b.erase x) hn.2 fun y hy=>by
   have hne:y≠x:=fun e=>by subst e;exact hn.1 hy
   rw [List.mem_erase_of_ne hne]
   exact h y (List.mem_cons_of_mem _ hy)
  rw [List.length_erase_of_mem hx] at ih
  have:0<b.length:=List.length_pos_of_mem hx
  rw [List.length_cons];omega
theorem av1:∀ {fs:List iZ} {s:Bytes},kindOf fs s≠0→s∈fs.map fun f=>f.1
 |[],_,h=>(h rfl).elim
 |f::r,s,h=>by
  rw [kindOf] at h
  by_cases e:f.1=s
  · rw [List.map_cons,e];exact List.mem_cons_self
  · rw [decide_eq_false e] at h
    rw [List.map_cons]
    exact List.mem_cons_of_mem _ (av1 h)
theorem aFG {fs:List iZ} {as:List gZ} (h:mW fs as=true):as.length≤fs.length:=by
 obtain ⟨h1,h2⟩:=aem.1 h
 have:=aBL (as.map fun a=>a.1) (fs.map fun f=>f.1) ?_ fun s hs=>?_
 · rw [List.length_map,List.length_map] at this;exact this
 · unfold List.Nodup
   rw [List.pairwise_map]
   exact h2.imp fun {a b} hab=>an3 hab
 · obtain ⟨a,ha,rfl⟩:=List.mem_map.1 hs
   have hm:=h1 a ha
   unfold jh at hm
   simp only [Bool.and_eq_true,decide_eq_true_eq,Bool.not_eq_true',decide_eq_false_iff_not] at hm
   exact av1 (by rw [← hm.2];exact hm.1.2)
end Sp
