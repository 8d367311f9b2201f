import Derived.Test.YtlbkigkbmeckbaaGreatFwA
import Derived.Lib.ItoaNum
import Derived.Lib.ItoaLen
import Derived.Lib.Join
import Derived.Test.YtlbkigkbmeckbaaGreatFwC
namespace Sp
open Go
abbrev Bytes:=List UInt8
abbrev LI:=List (Int×Unit)
abbrev LS:=List (Bytes×Unit)
theorem take_succ' {α:Type} (a:List α) (n:Nat) (d:α) (h:n<a.length):a.take (n+1)=a.take n++[a.getD n d]:=by
 rw [List.take_succ_eq_append_getElem h,List.getD_eq_getElem?_getD,List.getElem?_eq_getElem h];rfl
def ajo (l:LI):Prop:=∀ x∈l,-9223372036854775808≤x.1∧x.1≤9223372036854775807
theorem ajo.take {a:LI} (h:ajo a) (n:Nat):ajo (a.take n):=fun x hx=>h x (List.mem_of_mem_take hx)
theorem ajo.get {a:LI} (h:ajo a) {n:Nat} (hn:n<a.length) (d:Int×Unit):(Lib.itoa (a.getD n d).1).length≤21:=by
 have:a.getD n d∈a:=by rw [List.getD_eq_getElem?_getD,List.getElem?_eq_getElem hn,Option.getD_some];exact List.getElem_mem hn
 exact Lib.itoa_length_le _ (h _ this).1 (h _ this).2
end Sp
namespace Sp
open Go
set_option synthInstance.maxSize 100000
set_option synthInstance.maxHeartbeats 1000000
abbrev apF:=Int×Int×Bytes×Unit
abbrev dR:=Bytes×Int×Int×Bytes×Unit
abbrev bJ:=Int×Int×Int×Bytes×Int×Int×Bytes×Unit
abbrev aK:=Int×Int×Bool×Int×List dR×Unit
abbrev aT:=Bytes×List bJ×Unit
abbrev alU:=Int×Int×Int×Bool×Int×List dR×Int×Bytes×List bJ×Unit
instance:DecidableEq apF:=inferInstance
instance:DecidableEq dR:=inferInstance
instance:DecidableEq bJ:=inferInstance
instance:DecidableEq aK:=inferInstance
instance:DecidableEq aT:=inferInstance
instance:DecidableEq (Int×aT):=inferInstance
instance:DecidableEq (List dR×Int×aT):=inferInstance
instance:DecidableEq (Bool×Int×List dR×Int×aT):=inferInstance
instance axV:DecidableEq alU:=(inferInstance:DecidableEq (Int×Int×Int×Bool×Int×List dR×Int×aT))
instance:DecidableEq (List alU):=inferInstance
instance:DecidableEq (List alU×Bytes×Int×Unit):=inferInstance
def lower (s:Bytes):Bool:=s.all fun c=>decide (97≤c.toNat)&&decide (c.toNat≤122)
def iV (s:Bytes):Bool:=lower s&&decide (1≤(s.length:Int))&&decide ((s.length:Int)≤6)
def awe (n:Int):Bool:=decide (0≤n)&&decide (n≤1000000000)
def idxFrom:Int→LI→Int
 |_,[]=>-1
 |k,x::r=>if awe x.1 then idxFrom (k+1) r else k
def idxOf (l:LI):Int:=idxFrom 0 l
end Sp
namespace Sp
open Go
abbrev gU:=Bytes×Int×Unit
abbrev bZ:=List gU×List aK×Int×Unit
instance:DecidableEq gU:=inferInstance
instance:DecidableEq (List gU):=inferInstance
instance:DecidableEq (List aK):=inferInstance
instance:DecidableEq (List aK×Int×Unit):=inferInstance
instance ayk:DecidableEq bZ:=(inferInstance:DecidableEq (List gU×List aK×Int×Unit))
def usual:List gU:=[([97],1,()),([98],1,()),([110],2,()),([116],2,())]
def bW (f:aK):Prop:=f.2.2.2.2.1.length≤1000
def bG (s:bZ):Prop:=s.1.length≤1000∧s.2.1.length≤1000∧∀ f∈s.2.1,bW f
def jQ (n:Nat) (f:Nat→Bool):Bool:=(List.range n).all f
def jT (s:Bytes):Bool:=lower s&&decide (1≤(s.length:Int))&&decide ((s.length:Int)≤1)
def ku (k n:Int) (s:Bytes):Bool:=
 bif decide (k=0) then decide (n=0)&&decide (s=[])
 else bif decide (k=1) then decide (0≤n)&&decide (n≤999)&&decide (s=[])
 else bif decide (k=2) then iV s&&decide (n=0)
 else false
def kindOf:List gU→Bytes→Int
 |[],_=>0
 |f::r,s=>bif decide (f.1=s) then f.2.1 else kindOf r s
def fieldAt (fs:List gU) (i:Nat):gU:=fs.getD i ([],0,())
def lW (fs:List gU) (i:Nat):Bool:=
 jT (fieldAt fs i).1&&(decide (1≤(fieldAt fs i).2.1)&&decide ((fieldAt fs i).2.1≤2))&&!(decide (0<i)&&!Op.bytesLess (fieldAt fs (i-1)).1 (fieldAt fs i).1)
def fM (fs:List gU):Bool:=jQ fs.length (lW fs)&&decide ((fs.length:Int)≤5)
def jD (fs:List gU) (name:Bytes) (k n:Int) (s:Bytes):Bool:=ku k n s&&!decide (k=0)&&decide (k=kindOf fs name)
def bT (as:List dR) (i:Nat):dR:=as.getD i ([],0,0,[],())
def kL (fs:List gU) (as:List dR) (i:Nat):Bool:=
 jD fs (bT as i).1 (bT as i).2.1 (bT as i).2.2.1 (bT as i).2.2.2.1&&!(decide (0<i)&&!Op.bytesLess (bT as (i-1)).1 (bT as i).1)
def lH (fs:List gU) (as:List dR):Bool:=jQ as.length (kL fs as)
def cO (fs:List gU) (f:aK):Bool:=
 lH fs f.2.2.2.2.1&&fM fs&&(decide (1≤f.1)&&decide (f.1≤60))&&(decide (0≤f.2.1)&&decide (f.2.1≤2))&&(decide (0≤f.2.2.2.1)&&decide (f.2.2.2.1≤60))
def fileAt (fs:List aK) (i:Nat):aK:=fs.getD i (0,0,false,0,[],())
def lC (s:bZ) (i:Nat):Bool:=
 cO s.1 (fileAt s.2.1 i)&&decide ((fileAt s.2.1 i).1<s.2.2.1)&&!(decide (0<i)&&!decide ((fileAt s.2.1 (i-1)).1<(fileAt s.2.1 i).1))
def aH (s:bZ):Bool:=
 jQ s.2.1.length (lC s)&&fM s.1&&decide ((s.2.1.length:Int)≤12)&&(decide (1≤s.2.2.1)&&decide (s.2.2.1≤61))
def Dv:Int→List aK→Int→Int
 |_,[],_=>-1
 |k,f::r,id=>bif decide (f.1=id) then k else Dv (k+1) r id
def place (fs:List aK) (id:Int):Int:=Dv 0 fs id
def xB (f:aK) (u:Int):Bool:=(decide (0≤u)&&decide (u≤2))&&(decide (f.2.1=u)||f.2.2.1)
def mM (f:aK) (u:Int):Bool:=(decide (0≤u)&&decide (u≤2))&&decide (f.2.1=u)
def Hf (fs:List aK) (u:Int):List (Int×Unit):=(fs.filter fun f=>decide (f.2.1=u)).map fun f=>(f.1,())
def Ov:aK:=(0,0,false,0,[],())
def au (s:bZ) (id:Int):aK×Bool:=
 bif decide (place s.2.1 id<0) then (Ov,false) else (fileAt s.2.1 (place s.2.1 id).toNat,true)
def jy (name:Bytes) (b:dR):Bool:=!(b.1==name)
def kM (name:Bytes) (b:dR):Bool:=Op.bytesLess b.1 name||b.1==name
def Fp (as:List dR) (a:dR):List dR:=as.takeWhile (kM a.1)++a::as.dropWhile (kM a.1)
def fH (as:List dR) (name:Bytes) (k n:Int) (s:Bytes):List dR:=
 bif decide (k=0) then as.filter (jy name) else Fp (as.filter (jy name)) (name,k,n,s,())
def dD (s:bZ) (f:aK):bZ×Int×Bool:=
 let g:aK:=(s.2.2.1,f.2)
 bif aH s&&decide ((s.2.1.length:Int)<12)&&cO s.1 g then ((s.1,s.2.1++[g],s.2.2.1+1,()),s.2.2.1,true) else (s,0,false)
def aP (s:bZ) (f:aK):bZ×Bool:=
 bif aH s&&!decide (place s.2.1 f.1<0)&&cO s.1 f then ((s.1,s.2.1.set (place s.2.1 f.1).toNat f,s.2.2.1,()),true) else (s,false)
def fP (s:bZ) (id:Int):bZ×Bool:=
 bif aH s&&!decide (place s.2.1 id<0) then ((s.1,s.2.1.eraseIdx (place s.2.1 id).toNat,s.2.2.1,()),true) else (s,false)
def E8 {α:Type} (p:α→Bool):Int→List α→Int
 |_,[]=>-1
 |k,f::r=>bif p f then k else E8 p (k+1) r
def findAt {α:Type} (p:α→Bool) (l:List α):Int:=E8 p 0 l
def fieldPlace (l:List gU) (name:Bytes):Int:=findAt (fun f=>f.1==name) l
end Sp
namespace Sp
theorem apS:∀ (n m:Nat) (L:Nat→Nat),(∀ k,k<m→∃ j,j<n∧L j=k)→m≤n
 |0,m,L,h=>by
  rcases Nat.eq_zero_or_pos m with h0|h0
  · omega
  · obtain ⟨j,hj,_⟩:=h 0 h0;omega
 |n+1,m,L,h=>by
  by_cases hv:L n<m
  · have:=apS n (m-1) (fun j=>if L n<L j then L j-1 else L j) fun k hk=>by
     by_cases h1:k<L n
     · obtain ⟨j,hj,e⟩:=h k (by omega)
       have:j≠n:=fun e2=>by subst e2;omega
       exact ⟨j,by omega,by show (if _ then _ else _)=_;rw [if_neg (by omega)];exact e⟩
     · obtain ⟨j,hj,e⟩:=h (k+1) (by omega)
       have:j≠n:=fun e2=>by subst e2;omega
       exact ⟨j,by omega,by show (if _ then _ else _)=_;rw [if_pos (by omega)];omega⟩
    omega
  · have:=apS n m L fun k hk=>by
     obtain ⟨j,hj,e⟩:=h k hk
     have:j≠n:=fun e2=>by subst e2;omega
     exact ⟨j,by omega,e⟩
    omega
abbrev VX:=List (Nat×Nat×Nat)
def jo (E:VX) (L:Nat→Nat):Prop:=∀ e∈E,L e.2.1+e.2.2≤L e.1
def alV (E:VX) (n:Nat):Prop:=∀ e∈E,e.1<n∧e.2.1<n∧e.2.2≤1
def sumTo (n:Nat) (L:Nat→Nat):Nat:=match n with|0=>0|n+1=>sumTo n L+L n
theorem sumTo_le {L M:Nat→Nat}:∀ n,(∀ i,i<n→L i≤M i)→sumTo n L≤sumTo n M
 |0,_=>Nat.le_refl _
 |n+1,h=>Nat.add_le_add (sumTo_le n fun i hi=>h i (by omega)) (h n (by omega))
theorem apT {L M:Nat→Nat}:∀ n,(∀ i,i<n→L i≤M i)→(∃ i,i<n∧L i<M i)→sumTo n L<sumTo n M
 |0,_,⟨i,hi,_⟩=>by omega
 |n+1,h,⟨i,hi,hl⟩=>by
  have h1:=sumTo_le n fun j hj=>h j (Nat.lt_succ_of_lt hj)
  show sumTo n L+L n<sumTo n M+M n
  by_cases e:i=n
  · subst e;omega
  · have:=apT n (fun j hj=>h j (Nat.lt_succ_of_lt hj)) ⟨i,by omega,hl⟩
    have:=h n (by omega)
    omega
theorem TW {E:VX} {n:Nat} (hE:alV E n):∀ (s:Nat) (L:Nat→Nat),sumTo n L≤s→jo E L→∃ M,jo E M∧∀ i,i<n→M i<n
 |s,L,hs,hL=>by
  by_cases hall:∀ i,i<n→L i<n
  · exact ⟨L,hL,hall⟩
  · obtain ⟨i,hi⟩:=Classical.not_forall.1 hall
    have hi1:i<n∧n≤L i:=by
     by_cases h1:i<n
     · exact ⟨h1,Nat.le_of_not_lt fun h2=>hi fun _=>h2⟩
     · exact (hi fun h2=>(h1 h2).elim).elim
    have axP:∃ k,k<n∧∀ j,j<n→L j≠k:=by
     refine Classical.byContradiction fun hno=>?_
     have:=apS n (n+1) (fun j=>min (L j) n) fun k hk=>by
      by_cases h1:k<n
      · refine Classical.byContradiction fun h2=>hno ⟨k,h1,fun j hj e=>h2 ⟨j,hj,?_⟩⟩
        show min (L j) n=k
        omega
      · exact ⟨i,hi1.1,by show min (L i) n=k;omega⟩
     omega
    obtain ⟨k,hk,hno⟩:=axP
    have hlt:sumTo n (fun j=>if k<L j then L j-1 else L j)<sumTo n L:=by
     refine apT n (fun j _=>?_) ⟨i,hi1.1,?_⟩
     · show (if _ then _ else _)≤_
       split
       · exact Nat.sub_le _ _
       · exact Nat.le_refl _
     · show (if _ then _ else _)<_;rw [if_pos (by omega)];omega
    match s,hs with
    |0,hs=>omega
    |s+1,hs=>
     refine TW hE s (fun j=>if k<L j then L j-1 else L j) (by omega) fun e he=>?_
     have h1:=hL e he
     obtain ⟨h2,h3,h4⟩:=hE e he
     have n1:=hno e.1 h2
     have n2:=hno e.2.1 h3
     show (if k<L e.2.1 then L e.2.1-1 else L e.2.1)+e.2.2≤(if k<L e.1 then L e.1-1 else L e.1)
     split<;>split<;>omega
theorem Oj {E:VX} {n:Nat} (hE:alV E n) (h:∃ L,jo E L):∃ M,jo E M∧∀ i,i<n→M i<n:=by
 obtain ⟨L,hL⟩:=h
 exact TW hE (sumTo n L) L (Nat.le_refl _) hL
structure Raises (E:VX) (n:Nat) (R:(Nat→Nat)→Nat→Nat):Prop where
 up:∀ L i,L i≤R L i
 fix:∀ L,(∀ i,i<n→R L i=L i)→jo E L
 below:∀ L M,jo E M→(∀ i,i<n→L i≤M i)→∀ i,i<n→R L i≤M i
 same:∀ L L',(∀ i,i<n→L i=L' i)→∀ i,i<n→R L i=R L' i
end Sp
namespace Sp
open Go
abbrev awS:=List gU×List aK×Int×List aT×Unit
abbrev awf:=Int×List gU×List aK×Int×List aT×Int×Unit
instance:DecidableEq (List bJ):=inferInstance
instance:DecidableEq aT:=inferInstance
instance:DecidableEq (List aT):=inferInstance
instance:DecidableEq (List aT×Unit):=inferInstance
instance:DecidableEq (Int×List aT×Unit):=inferInstance
instance:DecidableEq (List aK×Int×List aT×Unit):=inferInstance
instance ayI:DecidableEq awS:=(inferInstance:DecidableEq (List gU×List aK×Int×List aT×Unit))
instance:DecidableEq (List aT×Int×Unit):=inferInstance
instance:DecidableEq (Int×List aT×Int×Unit):=inferInstance
instance:DecidableEq (List aK×Int×List aT×Int×Unit):=inferInstance
instance:DecidableEq (List gU×List aK×Int×List aT×Int×Unit):=inferInstance
instance ayT:DecidableEq awf:=(inferInstance:DecidableEq (Int×List gU×List aK×Int×List aT×Int×Unit))
instance:DecidableEq (List awf):=inferInstance
def nodeAt (q:List bJ) (i:Nat):bJ:=q.getD i (0,0,0,[],0,0,[],())
def jR (n:bJ):Bool:=n.1==6||n.1==7
def jL (n:bJ):Bool:=n.1==8||n.1==9
def kS (n:bJ) (a:Int):Bool:=
 let kids:=decide (0≤n.2.1)&&decide (n.2.1≤a-1)&&decide (0<a)
 let two:=decide (0≤n.2.2.1)&&decide (n.2.2.1≤a-1)
 let bare:=n.2.2.2.1==[]&&(n.2.2.2.2.1==0&&(n.2.2.2.2.2.1==0&&n.2.2.2.2.2.2.1==[]))
 let flat:=n.2.1==0&&n.2.2.1==0
 let valued:=ku n.2.2.2.2.1 n.2.2.2.2.2.1 n.2.2.2.2.2.2.1
 let void:=n.2.2.2.2.1==0&&(n.2.2.2.2.2.1==0&&n.2.2.2.2.2.2.1==[])
 bif n.1==1 then flat&&bare else bif n.1==2 then flat&&void&&jT n.2.2.2.1 else
 bif n.1==3 then flat&&jT n.2.2.2.1&&valued&&!(n.2.2.2.2.1==0) else bif n.1==4 then flat&&jT n.2.2.2.1&&valued&&n.2.2.2.2.1==1 else
 bif n.1==5 then kids&&n.2.2.1==0&&bare else bif n.1==6||n.1==7 then kids&&two&&bare else
 bif n.1==8||n.1==9 then flat&&void&&iV n.2.2.2.1 else false
def refsOf (a:Int) (n:bJ):Nat:=(bif (jR n||n.1==5)&&n.2.1==a then 1 else 0)+(bif jR n&&n.2.2.1==a then 1 else 0)
def pF (q:List bJ) (a:Int):Nat:=(q.map (refsOf a)).sum
def nT (q:List bJ) (i:Nat):Bool:=kS (nodeAt q i) i&&!(decide ((i:Int)<(q.length:Int)-1)&&!(pF q i==1))
def bQ (q:List bJ):Bool:=jQ q.length (nT q)&&(decide (1≤(q.length:Int))&&decide ((q.length:Int)≤9))
def dX (d:List aT) (i:Nat):aT:=d.getD i ([],[],())
def oI (d:List aT) (i:Nat):Bool:=iV (dX d i).1&&bQ (dX d i).2.1&&!(decide (0<i)&&!Op.bytesLess (dX d (i-1)).1 (dX d i).1)
def gV (d:List aT):Bool:=jQ d.length (oI d)&&decide ((d.length:Int)≤5)
def kV (q:List bJ) (i:Nat) (out:List (Bool×Unit)):List (Bool×Unit):=
 let n:=nodeAt q i
 bif n.1==5 then out.set n.2.1.toNat (true,()) else bif jR n then (out.set n.2.1.toNat ((out.getD i (false,())).1,())).set n.2.2.1.toNat ((out.getD i (false,())).1,()) else out
def jq (q:List bJ):Nat→List (Bool×Unit)→List (Bool×Unit)
 |0,out=>out
 |n+1,out=>jq q n (kV q n out)
def negated (q:List bJ):List (Bool×Unit):=bif bQ q then jq q q.length (List.replicate q.length (false,())) else []
def fC (q:List bJ) (neg:Bool):List Bytes:=(List.range (negated q).length).filterMap fun i=>bif jL (nodeAt q i)&&((negated q).getD i (false,())).1==neg then some (nodeAt q i).2.2.2.1 else none
def Fz:Int→List aT→Bytes→Int
 |_,[],_=>-1
 |k,x::r,s=>bif x.1==s then k else Fz (k+1) r s
def aU (d:List aT) (s:Bytes):Int:=Fz 0 d s
def dV (d:List aT):VX:=
 (List.range d.length).flatMap fun i=>
   ((fC (dX d i).2.1 false).filterMap fun s=>bif decide (0≤aU d s) then some (i,(aU d s).toNat,0) else none)++
   ((fC (dX d i).2.1 true).filterMap fun s=>bif decide (0≤aU d s) then some (i,(aU d s).toNat,1) else none)
open Classical in
noncomputable def aF (d:List aT):Bool:=gV d&&decide (∃ L,jo (dV d) L)
def dB (r:LS) (l:List Bytes):Prop:=r.length≤1000∧∀ s,(s,())∈r↔s∈l
def Aj (d:List aT) (aG:List (Int×Unit)) (more:Int):LS→Int
 |[]=>0
 |x::r=>max (bif decide (0≤aU d x.1) then (aG.getD (aU d x.1).toNat (0,())).1+more else 0) (Aj d aG more r)
def BR (l:LS) (s:Bytes):LS:=
 let n:=(l.takeWhile fun x=>Op.bytesLess x.1 s).length
 bif decide (n<l.length)&&(l.getD n ([],())).1==s then l else l.take n++[(s,())]++l.drop n
def raised (d:List aT) (aG r:List (Int×Unit)):Prop:=
 r.length=d.length∧(∀ i,i<d.length→(aG.getD i (0,())).1≤(r.getD i (0,())).1)∧(∀ B:Int,(∀ i,i<d.length→(aG.getD i (0,())).1≤B)→∀ i,i<d.length→(r.getD i (0,())).1≤B+5000)∧
 ((∀ i,i<d.length→(r.getD i (0,())).1=(aG.getD i (0,())).1)→jo (dV d) fun i=>(aG.getD i (0,())).1.toNat)∧
 ∀ M,jo (dV d) M→(∀ i,i<d.length→(aG.getD i (0,())).1≤M i)→∀ i,i<d.length→(r.getD i (0,())).1≤M i
def aV (d:List aT):Prop:=d.length≤1000∧∀ x∈d,x.2.1.length≤1000
end Sp
namespace Sp
open Go
end Sp
namespace Sp
open Go
theorem aa4 (s:Bytes):∀ (d:List aT) (k:Int),(Fz k d s=-1∧∀ x∈d,x.1≠s)∨∃ n,n<d.length∧Fz k d s=k+n∧(dX d n).1=s∧∀ i,i<n→(dX d i).1≠s
 |[],k=> .inl ⟨rfl,fun x hx=>by cases hx⟩
 |x::r,k=>by
  by_cases h:x.1=s
  · right
    refine ⟨0,by simp,?_,h,fun i hi=>by omega⟩
    rw [Fz,beq_iff_eq.2 h];simp
  · rcases aa4 s r (k+1) with ⟨h1,h2⟩|⟨n,h1,h2,h3,h4⟩
    · left
      refine ⟨by rw [Fz,beq_eq_false_iff_ne.2 h];exact h1,fun y hy=>?_⟩
      rcases List.mem_cons.1 hy with rfl|hy
      · exact h
      · exact h2 y hy
    · right
      refine ⟨n+1,by simp;omega,by rw [Fz,beq_eq_false_iff_ne.2 h];show Fz (k+1) r s=_;omega,h3,fun i hi=>?_⟩
      cases i with
      |zero=>exact h
      |succ i=>exact h4 i (by omega)
theorem Fv (d:List aT) (s:Bytes):(aU d s=-1∧∀ x∈d,x.1≠s)∨∃ n,n<d.length∧aU d s=n∧(dX d n).1=s∧∀ i,i<n→(dX d i).1≠s:=by
 rcases aa4 s d 0 with h|⟨n,h1,h2,h3⟩
 · exact .inl h
 · exact .inr ⟨n,h1,by show Fz 0 d s=_;omega,h3⟩
theorem J6 {d:List aT} {s:Bytes} (h:0≤aU d s):aU d s<d.length:=by
 rcases Fv d s with ⟨h1,_⟩|⟨n,h1,h2,_⟩<;>omega
theorem EY {d:List aT} {i j m:Nat}:(i,j,m)∈dV d↔i<d.length∧∃ s,((m=0∧s∈fC (dX d i).2.1 false)∨(m=1∧s∈fC (dX d i).2.1 true))∧0≤aU d s∧j=(aU d s).toNat:=by
 unfold dV
 rw [List.mem_flatMap]
 constructor
 · rintro ⟨k,hk,h⟩
   rw [List.mem_range] at hk
   rcases List.mem_append.1 h with h|h
   all_goals
    obtain ⟨s,hs,e⟩:=List.mem_filterMap.1 h
    rw [cond_eq_ite] at e
    split at e
    · next hp=>
      have hp:0≤aU d s:=of_decide_eq_true hp
      cases e
      exact ⟨hk,s,by first|exact .inl ⟨rfl,hs⟩|exact .inr ⟨rfl,hs⟩,hp,rfl⟩
    · cases e
 · rintro ⟨hi,s,h|h,hp,rfl⟩
   · obtain ⟨rfl,hs⟩:=h
     refine ⟨i,List.mem_range.2 hi,List.mem_append.2 (.inl (List.mem_filterMap.2 ⟨s,hs,?_⟩))⟩
     rw [decide_eq_true hp];rfl
   · obtain ⟨rfl,hs⟩:=h
     refine ⟨i,List.mem_range.2 hi,List.mem_append.2 (.inr (List.mem_filterMap.2 ⟨s,hs,?_⟩))⟩
     rw [decide_eq_true hp];rfl
theorem mQ (d:List aT):alV (dV d) d.length:=by
 rintro ⟨i,j,m⟩ he
 obtain ⟨h1,s,h2,h3,h4⟩:=EY.1 he
 have:=J6 h3
 refine ⟨h1,?_,?_⟩
 · show j<_;omega
 · show m≤1;rcases h2 with ⟨h,_⟩|⟨h,_⟩<;>omega
def lv (l:List (Int×Unit)) (i:Nat):Int:=(l.getD i (0,())).1
theorem apE {l:List (Int×Unit)} {i:Nat} (hi:i<l.length) (x:Int) (k:Nat):lv (l.set i (x,())) k=if k=i then x else lv l k:=by
 unfold lv
 rw [List.getD_eq_getElem?_getD,List.getD_eq_getElem?_getD]
 by_cases h:k=i
 · subst h;rw [List.getElem?_set_self hi,if_pos rfl];rfl
 · rw [List.getElem?_set_ne (fun e=>h e.symm),if_neg h]
theorem aap {l:List (Int×Unit)} {i:Nat} (hi:i<l.length):(lv l i,())∈l:=by
 unfold lv
 rw [List.getD_eq_getElem?_getD,List.getElem?_eq_getElem hi]
 exact List.getElem_mem hi
theorem apD {l:List (Int×Unit)} {p:Int→Prop} (h:∀ i,i<l.length→p (lv l i)):∀ x∈l,p x.1:=by
 intro x hx
 obtain ⟨i,hi,e⟩:=List.getElem_of_mem hx
 have:=h i hi
 unfold lv at this
 rw [List.getD_eq_getElem?_getD,List.getElem?_eq_getElem hi] at this
 rw [← e];exact this
theorem atx {a b:List (Int×Unit)} (hl:a.length=b.length) (h:∀ i,i<a.length→lv a i=lv b i):a=b:=by
 refine List.ext_getElem hl fun i h1 h2=>?_
 have:=h i h1
 unfold lv at this
 rw [List.getD_eq_getElem?_getD,List.getD_eq_getElem?_getD,List.getElem?_eq_getElem h1,List.getElem?_eq_getElem h2] at this
 exact Prod.ext this rfl
structure Jt (d:List aT) (aG cur:List (Int×Unit)) (g:Int) (P:Nat×Nat×Nat→Prop):Prop where
 len:cur.length=d.length
 up:∀ i,i<d.length→lv aG i≤lv cur i
 grow:∀ B,(∀ i,i<d.length→lv aG i≤B)→∀ i,i<d.length→lv cur i≤B+g
 fix:(∀ i,i<d.length→lv cur i=lv aG i)→∀ e,P e→lv aG e.2.1+e.2.2≤lv aG e.1
 below:∀ M,jo (dV d) M→(∀ i,i<d.length→lv aG i≤M i)→∀ i,i<d.length→lv cur i≤M i
theorem Jt.start {d:List aT} {aG:List (Int×Unit)} (h:aG.length=d.length):Jt d aG aG 0 fun _=>False:=
 ⟨h,fun _ _=>Int.le_refl _,fun B hB i hi=>by have:=hB i hi;omega,fun _ e he=>he.elim,fun _ _ h=>h⟩
theorem Jt.weaken {d:List aT} {aG cur:List (Int×Unit)} {g g':Int} {P P':Nat×Nat×Nat→Prop} (h:Jt d aG cur g P) (hg:g≤g') (hP:∀ e,P' e→P e):Jt d aG cur g' P':=
 ⟨h.len,h.up,fun B hB i hi=>by have:=h.grow B hB i hi;omega,fun hx e he=>h.fix hx e (hP e he),h.below⟩
theorem Jt.still {d:List aT} {aG cur:List (Int×Unit)} {g:Int} {P:Nat×Nat×Nat→Prop} (h:Jt d aG cur g P) {i j m:Nat} (he:(i,j,m)∈dV d) (hle:lv cur j+m≤lv cur i):Jt d aG cur g fun e=>P e∨e=(i,j,m):=by
 obtain ⟨h1,h2,_⟩:=mQ d _ he
 refine ⟨h.len,h.up,h.grow,fun hx e hp=>?_,h.below⟩
 rcases hp with hp|rfl
 · exact h.fix hx e hp
 · have a:=hx i h1
   have b:=hx j h2
   show lv aG j+m≤lv aG i
   omega
theorem Jt.set {d:List aT} {aG cur:List (Int×Unit)} {g:Int} {P:Nat×Nat×Nat→Prop} (h:Jt d aG cur g P) {i j m:Nat} (he:(i,j,m)∈dV d) (hlt:lv cur i<lv cur j+m):Jt d aG (cur.set i (lv cur j+m,())) (g+m) fun e=>P e∨e=(i,j,m):=by
 obtain ⟨h1,h2,_⟩:=mQ d _ he
 have h1:i<d.length:=h1
 have h2:j<d.length:=h2
 have hl:=h.len
 have hs:=fun k=>apE (l:=cur) (i:=i) (by omega) (lv cur j+m) k
 refine ⟨by simp;omega,fun k hk=>?_,fun B hB k hk=>?_,fun hx e hp=>?_,fun M hM hb k hk=>?_⟩
 · rw [hs];have a:=h.up k hk;split
   · next e=>subst e;omega
   · exact a
 · rw [hs]
   have a:=h.grow B hB k hk
   have b:=h.grow B hB j h2
   split<;>omega
 · have:=hx i h1
   rw [hs,if_pos rfl] at this
   have:=h.up i h1
   omega
 · rw [hs]
   split
   · next e=>
     subst e
     have a:=h.below M hM hb j h2
     have b:=hM _ he
     have b:M j+m≤M k:=b
     omega
   · exact h.below M hM hb k hk
theorem Jt.raised {d:List aT} {aG cur:List (Int×Unit)} {g:Int} {P:Nat×Nat×Nat→Prop} (h:Jt d aG cur g P) (hg:g≤5000) (hP:∀ e∈dV d,P e) (h0:∀ i,i<d.length→0≤lv aG i):raised d aG cur:=by
 refine ⟨h.len,h.up,fun B hB i hi=>by have:=h.grow B hB i hi;show lv cur i≤_;omega,fun hx e he=>?_,h.below⟩
 have a:=h.fix hx e (hP e he)
 obtain ⟨h1,h2,_⟩:=mQ d _ he
 have b:=h0 _ h1
 have c:=h0 _ h2
 show (lv aG e.2.1).toNat+e.2.2≤(lv aG e.1).toNat
 omega
theorem ajp (d:List aT) (aG:List (Int×Unit)) (hl:aG.length=d.length):∀ (E:VX),(∀ e∈E,e∈dV d)→∃ cur:List (Int×Unit),cur.length=d.length∧(∀ i,i<d.length→lv aG i≤lv cur i∧(lv cur i=lv aG i∨∃ e∈E,e.1=i∧lv cur i=lv aG e.2.1+e.2.2))∧∀ e∈E,lv aG e.2.1+e.2.2≤lv cur e.1
 |[],_=>⟨aG,hl,fun i hi=>⟨Int.le_refl _, .inl rfl⟩,fun e he=>by cases he⟩
 |e::E,hE=>by
  obtain ⟨cur,h1,h2,h3⟩:=ajp d aG hl E fun x hx=>hE x (List.mem_cons_of_mem _ hx)
  obtain ⟨g1,g2,_⟩:=mQ d e (hE e List.mem_cons_self)
  by_cases h:lv cur e.1<lv aG e.2.1+e.2.2
  · have hs:=fun k=>apE (l:=cur) (i:=e.1) (by omega) (lv aG e.2.1+e.2.2) k
    refine ⟨cur.set e.1 (lv aG e.2.1+e.2.2,()),by simp;omega,fun i hi=>?_,fun x hx=>?_⟩
    · rw [hs]
      have:=h2 i hi
      split
      · next hi'=>exact ⟨by rw [hi'] at this ⊢;omega, .inr ⟨e,List.mem_cons_self,hi'.symm,rfl⟩⟩
      · refine ⟨this.1,this.2.imp_right fun ⟨x,hx,hy⟩=>⟨x,List.mem_cons_of_mem _ hx,hy⟩⟩
    · rw [hs]
      rcases List.mem_cons.1 hx with rfl|hx
      · rw [if_pos rfl];omega
      · have:=h3 x hx
        split
        · next he=>rw [he] at this;omega
        · exact this
  · refine ⟨cur,h1,fun i hi=>?_,fun x hx=>?_⟩
    · have:=h2 i hi
      exact ⟨this.1,this.2.imp_right fun ⟨x,hx,hy⟩=>⟨x,List.mem_cons_of_mem _ hx,hy⟩⟩
    · rcases List.mem_cons.1 hx with rfl|hx
      · omega
      · exact h3 x hx
theorem aqy (d:List aT) (aG:List (Int×Unit)) (hl:aG.length=d.length) (h0:∀ i,i<d.length→0≤lv aG i):∃ cur,raised d aG cur:=by
 obtain ⟨cur,h1,h2,h3⟩:=ajp d aG hl (dV d) fun _ h=>h
 refine ⟨cur,h1,fun i hi=>(h2 i hi).1,fun B hB i hi=>?_,fun hx e he=>?_,fun M hM hb i hi=>?_⟩
 · show lv cur i≤_
   rcases (h2 i hi).2 with h|⟨e,he,rfl,h⟩
   · rw [h];have:=hB i hi;show (aG.getD i (0,())).1≤_;omega
   · obtain ⟨_,g2,g3⟩:=mQ d e he
     have:lv aG e.2.1≤B:=hB _ g2
     omega
 · obtain ⟨g1,g2,_⟩:=mQ d e he
   have a:=h3 e he
   have b:=h0 _ g1
   have c:=h0 _ g2
   have x:lv cur e.1=lv aG e.1:=hx _ g1
   show (lv aG e.2.1).toNat+e.2.2≤(lv aG e.1).toNat
   omega
 · show lv cur i≤_
   rcases (h2 i hi).2 with h|⟨e,he,rfl,h⟩
   · rw [h];exact hb i hi
   · obtain ⟨_,g2,_⟩:=mQ d e he
     have a:lv aG e.2.1≤M e.2.1:=hb _ g2
     have b:=hM e he
     omega
theorem Hy {d:List aT} {aG:List (Int×Unit)} {more:Int}:∀ (r:LS) (B:Int),Aj d aG more r≤B↔0≤B∧∀ x∈r,0≤aU d x.1→lv aG (aU d x.1).toNat+more≤B
 |[],B=>by simp [Aj]
 |x::r,B=>by
  have ih:=Hy (d:=d) (aG:=aG) (more:=more) r B
  rw [Aj]
  have e:∀ a b:Int,max a b≤B↔a≤B∧b≤B:=fun a b=>by omega
  rw [e,ih]
  simp only [List.mem_cons,forall_eq_or_imp]
  by_cases h:0≤aU d x.1
  · rw [decide_eq_true h]
    show lv aG _+more≤B∧_↔_
    constructor
    · exact fun ⟨a,b,c⟩=>⟨b,fun _=>a,c⟩
    · exact fun ⟨a,b,c⟩=>⟨b h,a,c⟩
  · rw [decide_eq_false h]
    show (0:Int)≤B∧_↔_
    constructor
    · exact fun ⟨a,b,c⟩=>⟨b,fun h'=>(h h').elim,c⟩
    · exact fun ⟨a,b,c⟩=>⟨a,a,c⟩
def AO (l:List (Int×Unit)):Nat→Int
 |0=>0
 |n+1=>AO l n+lv l n
theorem afL {a b:List (Int×Unit)}:∀ n,(∀ i,i<n→lv a i≤lv b i)→AO a n≤AO b n
 |0,_=>Int.le_refl _
 |n+1,h=>Int.add_le_add (afL n fun i hi=>h i (by omega)) (h n (by omega))
theorem afK {a b:List (Int×Unit)}:∀ n,(∀ i,i<n→lv a i≤lv b i)→(∃ i,i<n∧lv a i<lv b i)→AO a n<AO b n
 |0,_,⟨i,hi,_⟩=>by omega
 |n+1,h,⟨i,hi,hl⟩=>by
  have h1:=afL n fun j hj=>h j (Nat.lt_succ_of_lt hj)
  show AO a n+lv a n<AO b n+lv b n
  by_cases e:i=n
  · subst e;omega
  · have:=afK n (fun j hj=>h j (Nat.lt_succ_of_lt hj)) ⟨i,by omega,hl⟩
    have:=h n (by omega)
    omega
theorem QG {a:List (Int×Unit)} {b:Nat}:∀ n:Nat,(∀ i,i<n→lv a i≤b)→AO a n≤(n*b:Nat)
 |0,_=>by simp [AO]
 |n+1,h=>by
  have h1:=QG n fun i hi=>h i (Nat.lt_succ_of_lt hi)
  have h2:=h n (by omega)
  show AO a n+lv a n≤((n+1)*b:Nat)
  rw [Nat.succ_mul];omega
theorem aak {a:List (Int×Unit)}:∀ n:Nat,(∀ i,i<n→0≤lv a i)→0≤AO a n
 |0,_=>Int.le_refl _
 |n+1,h=>Int.add_nonneg (aak n fun i hi=>h i (by omega)) (h n (by omega))
theorem oH {d:List aT}:aF d=true↔gV d=true∧∃ L,jo (dV d) L:=by
 unfold aF
 simp
theorem U8 {d:List aT} (h:gV d=true):d.length≤5:=by
 unfold gV at h
 simp only [Bool.and_eq_true,decide_eq_true_eq] at h
 omega
end Sp
namespace Sp
abbrev Ext (ι α:Type):=ι→α→Bool
structure Sys (ι α:Type) where
 T:ι→Ext ι α→α→Prop
 pos:ι→ι→Prop
 neg:ι→ι→Prop
 mono:∀ i X Y,(∀ j,pos i j→∀ x,X j x=true→Y j x=true)→(∀ j,neg i j→∀ x,X j x=Y j x)→∀ x,T i X x→T i Y x
def aos {ι α:Type} (S:Sys ι α) (N:ι→Prop) (aG:ι→Nat):Prop:=∀ i j,N i→N j→(S.pos i j→aG j≤aG i)∧(S.neg i j→aG j<aG i)
structure Eval {ι α:Type} (S:Sys ι α) (N:ι→Prop) (aG:ι→Nat) (X:Ext ι α):Prop where
 fix:∀ i,N i→∀ x,X i x=true↔S.T i X x
 least:∀ k (Y:Ext ι α),(∀ i,¬ (N i∧aG i=k)→∀ x,Y i x=X i x)→(∀ i,N i→aG i=k→∀ x,S.T i Y x→Y i x=true)→∀ i,N i→aG i=k→∀ x,X i x=true→Y i x=true
open Classical in
theorem ari {ι α:Type} {P:ι→Prop} {A B:Ext ι α}:∃ Y:Ext ι α,(∀ i x,Y i x=true↔A i x=true∧(P i→B i x=true))∧∀ i,¬ P i→∀ x,Y i x=A i x:=by
 have h:∀ i x,decide (A i x=true∧(P i→B i x=true))=true↔A i x=true∧(P i→B i x=true):=fun i x=>decide_eq_true_iff
 refine ⟨fun i x=>decide (A i x=true∧(P i→B i x=true)),h,fun i hi x=>?_⟩
 rw [Bool.eq_iff_iff,h]
 exact ⟨fun h=>h.1,fun h=>⟨h,fun h'=>(hi h').elim⟩⟩
theorem Rn {ι α:Type} {S1 S2:Sys ι α} {N1 N2 U:ι→Prop} {l1 l2:ι→Nat} {X1 X2:Ext ι α}
 (h1:Eval S1 N1 l1 X1) (h2:Eval S2 N2 l2 X2) (s1:aos S1 N1 l1) (s2:aos S2 N2 l2) (u1:∀ i,U i→N1 i) (u2:∀ i,U i→N2 i)
 (hT:∀ i,U i→∀ X x,S1.T i X x↔S2.T i X x) (hp:∀ i,U i→∀ j,S2.pos i j→S1.pos i j) (hn:∀ i,U i→∀ j,S2.neg i j→S1.neg i j)
 (hc:∀ i,U i→∀ j,S1.pos i j∨S1.neg i j→U j∨∀ x,X1 j x=X2 j x):∀ i,U i→∀ x,X1 i x=X2 i x:=by
 have key:∀ k,∀ i,U i→l1 i=k→∀ x,X1 i x=X2 i x:=by
  intro k
  induction k using Nat.strongRecOn with
  |_ k ih=>
   have below:∀ j,U j→l1 j<k→∀ x,X1 j x=X2 j x:=fun j hj hl=>ih (l1 j) hl j hj rfl
   have awT:∀ i,U i→l1 i=k→∀ x,X1 i x=true→X2 i x=true:=by
    obtain ⟨Y,hY,ZA⟩:=ari (P:=fun i=>U i∧l1 i=k) (A:=X1) (B:=X2)
    have:=h1.least k Y (fun i hi=>ZA i fun h=>hi ⟨u1 i h.1,h.2⟩) fun i hN hl x hx=>by
     have apU:∀ j,S1.neg i j→∀ x,Y j x=X1 j x:=fun j hj=>ZA j fun h=>by
      have:=(s1 i j hN (u1 j h.1)).2 hj;omega
     refine (hY i x).2 ⟨(h1.fix i hN x).2 (S1.mono i Y X1 (fun j _ y hy=>((hY j y).1 hy).1) apU x hx),fun hU=>?_⟩
     refine (h2.fix i (u2 i hU.1) x).2 ((hT i hU.1 X2 x).1 (S1.mono i Y X2 (fun j hj y hy=>?_) (fun j hj y=>?_) x hx))
     · have hy:=(hY j y).1 hy
       rcases hc i hU.1 j (.inl hj) with h|h
       · have hl2:=(s1 i j hN (u1 j h)).1 hj
         rcases Nat.lt_or_ge (l1 j) k with h3|h3
         · rw [← below j h h3];exact hy.1
         · exact hy.2 ⟨h,by omega⟩
       · rw [← h];exact hy.1
     · rw [apU j hj]
       rcases hc i hU.1 j (.inr hj) with h|h
       · exact below j h (by have:=(s1 i j hN (u1 j h)).2 hj;omega) y
       · exact h y
    exact fun i hU hl x hx=>((hY i x).1 (this i (u1 i hU) hl x hx)).2 ⟨hU,hl⟩
   have awU:∀ m,∀ i,U i→l1 i=k→l2 i=m→∀ x,X2 i x=true→X1 i x=true:=by
    intro m
    induction m using Nat.strongRecOn with
    |_ m ih2=>
     obtain ⟨Y,hY,ZA⟩:=ari (P:=fun i=>U i∧l1 i=k∧l2 i=m) (A:=X2) (B:=X1)
     have:=h2.least m Y (fun i hi=>ZA i fun h=>hi ⟨u2 i h.1,h.2.2⟩) fun i hN hl x hx=>by
      have apU:∀ j,S2.neg i j→∀ x,Y j x=X2 j x:=fun j hj=>ZA j fun h=>by
       have:=(s2 i j hN (u2 j h.1)).2 hj;omega
      refine (hY i x).2 ⟨(h2.fix i hN x).2 (S2.mono i Y X2 (fun j _ y hy=>((hY j y).1 hy).1) apU x hx),fun hU=>?_⟩
      refine (h1.fix i (u1 i hU.1) x).2 ((hT i hU.1 X1 x).2 (S2.mono i Y X1 (fun j hj y hy=>?_) (fun j hj y=>?_) x hx))
      · have hy:=(hY j y).1 hy
        have hj1:=hp i hU.1 j hj
        rcases hc i hU.1 j (.inl hj1) with h|h
        · have g1:=(s1 i j (u1 i hU.1) (u1 j h)).1 hj1
          have g2:=(s2 i j hN (u2 j h)).1 hj
          rcases Nat.lt_or_ge (l1 j) k with h3|h3
          · rw [below j h h3];exact hy.1
          · rcases Nat.lt_or_ge (l2 j) m with h4|h4
            · exact ih2 (l2 j) h4 j h (by omega) rfl y hy.1
            · exact hy.2 ⟨h,by omega,by omega⟩
        · rw [h];exact hy.1
      · rw [apU j hj]
        have hj1:=hn i hU.1 j hj
        rcases hc i hU.1 j (.inr hj1) with h|h
        · exact (below j h (by have:=(s1 i j (u1 i hU.1) (u1 j h)).2 hj1;omega) y).symm
        · exact (h y).symm
     exact fun i hU hl1 hl2 x hx=>((hY i x).1 (this i (u2 i hU) hl2 x hx)).2 ⟨hU,hl1,hl2⟩
   exact fun i hU hl x=>Bool.eq_iff_iff.2 ⟨awT i hU hl x,awU (l2 i) i hU hl rfl x⟩
 exact fun i hU x=>key (l1 i) i hU rfl x
end Sp
namespace Sp
open Go
abbrev dN:=Bytes×List (Int×Unit)×Unit
abbrev BX:=Ext Bytes Int
def bM:List dR→Bytes→apF
 |[],_=>(0,0,[],())
 |a::r,s=>bif a.1==s then (a.2.1,a.2.2.1,a.2.2.2.1,()) else bM r s
def fG:List dN→Bytes→List (Int×Unit)
 |[],_=>[]
 |x::r,s=>bif x.1==s then x.2.1 else fG r s
def fF (l:List (Int×Unit)) (x:Int):Bool:=l.any fun y=>y.1==x
def bD (r:List dN):BX:=fun s x=>fF (fG r s) x
theorem HY {l:List (Int×Unit)} {x:Int}:fF l x=true↔(x,())∈l:=by
 unfold fF
 rw [List.any_eq_true]
 exact ⟨fun ⟨y,hy,h⟩=>by rw [← beq_iff_eq.1 h];exact hy,fun h=>⟨_,h,beq_iff_eq.2 rfl⟩⟩
def ja (n:bJ) (f:aK) (X:BX):Bool:=
 bif n.1==2 then !((bM f.2.2.2.2.1 n.2.2.2.1).1==0) else
 bif n.1==3 then decide (bM f.2.2.2.2.1 n.2.2.2.1=(n.2.2.2.2.1,n.2.2.2.2.2.1,n.2.2.2.2.2.2.1,())) else
 bif n.1==4 then (bM f.2.2.2.2.1 n.2.2.2.1).1==1&&decide ((bM f.2.2.2.2.1 n.2.2.2.1).2.1<n.2.2.2.2.2.1) else
 bif n.1==8 then X n.2.2.2.1 f.1 else
 bif n.1==9 then !(f.2.2.2.1==0)&&X n.2.2.2.1 f.2.2.2.1 else true
def val (q:List bJ) (f:aK) (X:BX) (a:Nat):Bool:=
 if (nodeAt q a).1=5 then (if h:(nodeAt q a).2.1.toNat<a then !val q f X (nodeAt q a).2.1.toNat else true)
 else if (nodeAt q a).1=6 then (if h:(nodeAt q a).2.1.toNat<a∧(nodeAt q a).2.2.1.toNat<a then val q f X (nodeAt q a).2.1.toNat&&val q f X (nodeAt q a).2.2.1.toNat else true)
 else if (nodeAt q a).1=7 then (if h:(nodeAt q a).2.1.toNat<a∧(nodeAt q a).2.2.1.toNat<a then val q f X (nodeAt q a).2.1.toNat||val q f X (nodeAt q a).2.2.1.toNat else true)
 else ja (nodeAt q a) f X
termination_by a
decreasing_by all_goals omega
theorem KG (q:List bJ) (f:aK) (X:BX) (a:Nat):val q f X a=
 if (nodeAt q a).1=5 then (if h:(nodeAt q a).2.1.toNat<a then !val q f X (nodeAt q a).2.1.toNat else true)
 else if (nodeAt q a).1=6 then (if h:(nodeAt q a).2.1.toNat<a∧(nodeAt q a).2.2.1.toNat<a then val q f X (nodeAt q a).2.1.toNat&&val q f X (nodeAt q a).2.2.1.toNat else true)
 else if (nodeAt q a).1=7 then (if h:(nodeAt q a).2.1.toNat<a∧(nodeAt q a).2.2.1.toNat<a then val q f X (nodeAt q a).2.1.toNat||val q f X (nodeAt q a).2.2.1.toNat else true)
 else ja (nodeAt q a) f X:=by rw [val]
def iW (q:List bJ) (f:aK) (X:BX):Bool:=bQ q&&val q f X (q.length-1)
def sel (fs:List aK) (q:List bJ) (X:BX):List (Int×Unit):=(fs.filter fun f=>iW q f X).map fun f=>(f.1,())
def DV (q:List bJ) (i:Nat):Bool:=((negated q).getD i (false,())).1
theorem Oo {q:List bJ} (h:bQ q=true) {i:Nat} (hi:i<q.length):kS (nodeAt q i) i=true∧((i:Int)<(q.length:Int)-1→pF q i=1):=by
 unfold bQ at h
 rw [Bool.and_eq_true] at h
 have h1:nT q i=true:=by
  have:=h.1
  unfold jQ at this
  exact List.all_eq_true.1 this i (List.mem_range.2 hi)
 unfold nT at h1
 rw [Bool.and_eq_true] at h1
 refine ⟨h1.1,fun hl=>?_⟩
 have h2:=h1.2
 rw [decide_eq_true hl] at h2
 simpa using h2
theorem Gn {q:List bJ} (h:bQ q=true):1≤q.length∧q.length≤9:=by
 unfold bQ at h
 simp only [Bool.and_eq_true,decide_eq_true_eq] at h
 omega
theorem aeD {n:bJ} {a:Nat} (h:kS n a=true) (hn:n.1=5∨n.1=6∨n.1=7):0≤n.2.1∧n.2.1.toNat<a:=by
 unfold kS at h
 rcases hn with e|e|e<;>simp [e] at h<;>omega
theorem Nk {n:bJ} {a:Nat} (h:kS n a=true) (hn:n.1=6∨n.1=7):0≤n.2.2.1∧n.2.2.1.toNat<a:=by
 unfold kS at h
 rcases hn with e|e<;>simp [e] at h<;>omega
theorem arj {α:Type} (g:α→Nat):∀ (l:List α),(l.map g).sum=1→∀ i j,i<l.length→j<l.length→i≠j→∀ d,1≤g (l.getD i d)→g (l.getD j d)=0
 |[],_,i,_,hi,_,_,_,_=>by simp at hi
 |x::r,h,i,j,hi,hj,hne,d,hg=>by
  rw [List.map_cons,List.sum_cons] at h
  have mem:∀ (l:List α) k,k<l.length→g (l.getD k d)≤(l.map g).sum:=by
   intro l
   induction l with
   |nil=>intro k hk;simp at hk
   |cons y t ih=>
    intro k hk
    rw [List.map_cons,List.sum_cons]
    cases k with
    |zero=>exact Nat.le_add_right _ _
    |succ k=>exact Nat.le_trans (ih k (by simpa using hk)) (Nat.le_add_left _ _)
  cases i with
  |zero=>
   cases j with
   |zero=>exact (hne rfl).elim
   |succ j=>
    have h1:1≤g x:=hg
    have:=mem r j (by simpa using hj)
    show g (r.getD j d)=0
    omega
  |succ i=>
   have h1:1≤g (r.getD i d):=hg
   have h2:=mem r i (by simpa using hi)
   cases j with
   |zero=>show g x=0;omega
   |succ j=>exact arj g r (by omega) i j (by simpa using hi) (by simpa using hj) (by omega) d hg
theorem I9 {q:List bJ} {p:Nat}:∀ (n:Nat) (out:List (Bool×Unit)),(∀ i,i<n→((nodeAt q i).1=5∨jR (nodeAt q i)=true→(nodeAt q i).2.1.toNat≠p)∧(jR (nodeAt q i)=true→(nodeAt q i).2.2.1.toNat≠p))→
 (jq q n out).getD p (false,())=out.getD p (false,())
 |0,_,_=>rfl
 |n+1,out,h=>by
  have ih:=I9 n (kV q n out) fun i hi=>h i (by omega)
  show (jq q n (kV q n out)).getD p (false,())=_
  rw [ih]
  have hs:∀ (l:List (Bool×Unit)) k x,k≠p→(l.set k x).getD p (false,())=l.getD p (false,()):=fun l k x hk=>by
   rw [List.getD_eq_getElem?_getD,List.getElem?_set_ne hk,← List.getD_eq_getElem?_getD]
  obtain ⟨h1,h2⟩:=h n (by omega)
  unfold kV
  dsimp only
  cases e5:((nodeAt q n).1==5) with
  |true=>exact hs _ _ _ (h1 (.inl (beq_iff_eq.1 e5)))
  |false=>
   cases e2:jR (nodeAt q n) with
   |true=>exact (hs _ _ _ (h2 e2)).trans (hs _ _ _ (h1 (.inr e2)))
   |false=>rfl
theorem Gs (q:List bJ):∀ (n:Nat) (out:List (Bool×Unit)),(jq q n out).length=out.length
 |0,_=>rfl
 |n+1,out=>by
  show (jq q n (kV q n out)).length=_
  rw [Gs q n]
  unfold kV
  dsimp only
  cases (nodeAt q n).1==5<;>cases jR (nodeAt q n)<;>simp
theorem AP {n:bJ}:jR n=true↔n.1=6∨n.1=7:=by
 unfold jR;simp
theorem Xa (q:List bJ):∀ (k m:Nat) (out:List (Bool×Unit)),∃ mid:List (Bool×Unit),mid.length=out.length∧jq q (m+k) out=jq q m mid
 |0,_,out=>⟨out,rfl,rfl⟩
 |k+1,m,out=>by
  obtain ⟨mid,h1,h2⟩:=Xa q k m (kV q (m+k) out)
  have hl:(kV q (m+k) out).length=out.length:=by
   unfold kV
   dsimp only
   cases (nodeAt q (m+k)).1==5<;>cases jR (nodeAt q (m+k))<;>simp
  exact ⟨mid,h1.trans hl,h2⟩
theorem Om {q:List bJ} (h:bQ q=true) {i:Nat} (hi:i<q.length):((nodeAt q i).1=5∨jR (nodeAt q i)=true→0≤(nodeAt q i).2.1∧(nodeAt q i).2.1.toNat<i)∧(jR (nodeAt q i)=true→0≤(nodeAt q i).2.2.1∧(nodeAt q i).2.2.1.toNat<i):=by
 have h1:=(Oo h hi).1
 refine ⟨fun h2=>?_,fun h2=>Nk h1 (AP.1 h2)⟩
 rcases h2 with h2|h2
 · exact aeD h1 (.inl h2)
 · exact aeD h1 (.inr (AP.1 h2))
theorem asx {q:List bJ} (h:bQ q=true) {i j p:Nat} (hi:i<q.length) (hj:j<q.length) (hne:i≠j) (hp:p<i) (hr:1≤refsOf p (nodeAt q i)):refsOf p (nodeAt q j)=0:=
 arj (refsOf p) q ((Oo h (by omega)).2 (by omega)) i j hi hj hne _ hr
theorem aqz {p:Nat} {n:bJ} (h:refsOf p n=0) (h0:((n.1=5∨jR n=true)→0≤n.2.1)∧(jR n=true→0≤n.2.2.1)):(n.1=5∨jR n=true→n.2.1.toNat≠p)∧(jR n=true→n.2.2.1.toNat≠p):=by
 unfold refsOf at h
 refine ⟨fun h1 h2=>?_,fun h1 h2=>?_⟩
 · have h3:=h0.1 h1
   have h4:((jR n||n.1==5)&&n.2.1==(p:Int))=true:=by
    have:(jR n||n.1==5)=true:=by rcases h1 with h1|h1<;>simp [h1]
    rw [this];simp;omega
   rw [h4] at h
   simp at h
 · have h3:=h0.2 h1
   have h4:(jR n&&n.2.2.1==(p:Int))=true:=by
    rw [h1];simp;omega
   rw [h4] at h
   simp at h
theorem aeE {p:Nat} {n:bJ} (h:n.1=5∨jR n=true) (h0:0≤n.2.1) (e:n.2.1.toNat=p):1≤refsOf p n:=by
 unfold refsOf
 have h4:((jR n||n.1==5)&&n.2.1==(p:Int))=true:=by
  have:(jR n||n.1==5)=true:=by rcases h with h1|h1<;>simp [h1]
  rw [this];simp;omega
 rw [h4];simp
theorem apV {p:Nat} {n:bJ} (h:jR n=true) (h0:0≤n.2.2.1) (e:n.2.2.1.toNat=p):1≤refsOf p n:=by
 unfold refsOf
 have h4:(jR n&&n.2.2.1==(p:Int))=true:=by rw [h];simp;omega
 rw [h4];simp
theorem VY {l:List (Bool×Unit)} {k p:Nat} {x:Bool×Unit} (hk:k<l.length):(l.set k x).getD p (false,())=if k=p then x else l.getD p (false,()):=by
 rw [List.getD_eq_getElem?_getD,List.getElem?_set]
 by_cases h:k=p
 · subst h;simp [hk]
 · simp [h]
theorem asy {q:List bJ} (h:bQ q=true) {i:Nat} (hi:i<q.length):
 ((nodeAt q i).1=5→DV q (nodeAt q i).2.1.toNat=true)∧(jR (nodeAt q i)=true→DV q (nodeAt q i).2.1.toNat=DV q i∧DV q (nodeAt q i).2.2.1.toNat=DV q i):=by
 have hn:negated q=jq q q.length (List.replicate q.length (false,())):=by unfold negated;rw [h];rfl
 obtain ⟨mid,hm1,hm2⟩:=Xa q (q.length-(i+1)) (i+1) (List.replicate q.length (false,()))
 rw [show i+1+(q.length-(i+1))=q.length by omega,← hn] at hm2
 have hml:mid.length=q.length:=by rw [hm1];simp
 have hm3:negated q=jq q i (kV q i mid):=hm2
 obtain ⟨k1,k2⟩:=Om h hi
 have keep:∀ p,p<i→1≤refsOf p (nodeAt q i)→DV q p=((kV q i mid).getD p (false,())).1:=fun p hp hr=>by
  unfold DV
  rw [hm3,I9 i]
  intro j hj
  have hjl:j<q.length:=by omega
  obtain ⟨g1,g2⟩:=Om h hjl
  exact aqz (asx h hi hjl (by omega) hp hr) ⟨fun z=>(g1 z).1,fun z=>(g2 z).1⟩
 have self:DV q i=(mid.getD i (false,())).1:=by
  unfold DV
  rw [hm2,I9 (i+1)]
  intro j hj
  obtain ⟨g1,g2⟩:=Om h (show j<q.length by omega)
  exact ⟨fun z=>by have:=(g1 z).2;omega,fun z=>by have:=(g2 z).2;omega⟩
 refine ⟨fun h5=>?_,fun h2=>?_⟩
 · obtain ⟨a,b⟩:=k1 (.inl h5)
   rw [keep _ b (aeE (.inl h5) a rfl)]
   unfold kV
   dsimp only
   rw [beq_iff_eq.2 h5]
   show ((mid.set _ (true,())).getD _ (false,())).1=true
   rw [VY (by omega),if_pos rfl]
 · obtain ⟨a,b⟩:=k1 (.inr h2)
   obtain ⟨a',b'⟩:=k2 h2
   have h5:((nodeAt q i).1==5)=false:=by
    rcases AP.1 h2 with e|e<;>rw [e]<;>rfl
   rw [keep _ b (aeE (.inr h2) a rfl),keep _ b' (apV h2 a' rfl),self]
   unfold kV
   dsimp only
   rw [h5,h2]
   show (((mid.set _ ((mid.getD i (false,())).1,())).set _ ((mid.getD i (false,())).1,())).getD _ (false,())).1=_∧(((mid.set _ ((mid.getD i (false,())).1,())).set _ ((mid.getD i (false,())).1,())).getD _ (false,())).1=_
   rw [VY (by rw [List.length_set];omega),VY (by omega),VY (by rw [List.length_set];omega),if_pos rfl,if_pos rfl]
   exact ⟨by split<;>rfl,rfl⟩
theorem asz {q:List bJ} (h:bQ q=true):DV q (q.length-1)=false:=by
 have hn:negated q=jq q q.length (List.replicate q.length (false,())):=by unfold negated;rw [h];rfl
 have hl:=Gn h
 unfold DV
 rw [hn,I9 q.length]
 · rw [List.getD_eq_getElem?_getD,List.getElem?_replicate];split<;>rfl
 · intro j hj
   obtain ⟨g1,g2⟩:=Om h hj
   exact ⟨fun z=>by have:=(g1 z).2;omega,fun z=>by have:=(g2 z).2;omega⟩
theorem apW {q:List bJ} (h:bQ q=true) {i:Nat} (hi:i<q.length) (hd:jL (nodeAt q i)=true):(nodeAt q i).2.2.2.1∈fC q (DV q i):=by
 have hl:(negated q).length=q.length:=by unfold negated;rw [h];show (jq _ _ _).length=_;rw [Gs];simp
 unfold fC
 rw [List.mem_filterMap]
 refine ⟨i,List.mem_range.2 (by omega),?_⟩
 unfold DV
 rw [hd];simp
theorem auC {q:List bJ} {f:aK} {X Y:BX} (h:bQ q=true) (hp:∀ s∈fC q false,∀ x,X s x=true→Y s x=true) (hn:∀ s∈fC q true,∀ x,X s x=Y s x):
 ∀ a,a<q.length→(DV q a=false→val q f X a=true→val q f Y a=true)∧(DV q a=true→val q f X a=val q f Y a):=by
 intro a
 induction a using Nat.strongRecOn with
 |_ a ih=>
  intro ha
  obtain ⟨k1,k2⟩:=Om h ha
  obtain ⟨n1,n2⟩:=asy h ha
  rw [KG q f X a,KG q f Y a]
  by_cases h5:(nodeAt q a).1=5
  · have hk:=k1 (.inl h5)
    have i1:=(ih _ hk.2 (by omega)).2 (n1 h5)
    rw [if_pos h5,if_pos h5,dif_pos hk.2,dif_pos hk.2,i1]
    exact ⟨fun _=>id,fun _=>rfl⟩
  rw [if_neg h5,if_neg h5]
  by_cases h6:(nodeAt q a).1=6
  · have h2:jR (nodeAt q a)=true:=AP.2 (.inl h6)
    have hk:=k1 (.inr h2)
    have hk':=k2 h2
    have i1:=ih _ hk.2 (by omega)
    have i2:=ih _ hk'.2 (by omega)
    rw [(n2 h2).1] at i1
    rw [(n2 h2).2] at i2
    rw [if_pos h6,if_pos h6,dif_pos ⟨hk.2,hk'.2⟩,dif_pos ⟨hk.2,hk'.2⟩]
    refine ⟨fun hf hv=>?_,fun ht=>by rw [i1.2 ht,i2.2 ht]⟩
    rw [Bool.and_eq_true] at hv ⊢
    exact ⟨i1.1 hf hv.1,i2.1 hf hv.2⟩
  rw [if_neg h6,if_neg h6]
  by_cases h7:(nodeAt q a).1=7
  · have h2:jR (nodeAt q a)=true:=AP.2 (.inr h7)
    have hk:=k1 (.inr h2)
    have hk':=k2 h2
    have i1:=ih _ hk.2 (by omega)
    have i2:=ih _ hk'.2 (by omega)
    rw [(n2 h2).1] at i1
    rw [(n2 h2).2] at i2
    rw [if_pos h7,if_pos h7,dif_pos ⟨hk.2,hk'.2⟩,dif_pos ⟨hk.2,hk'.2⟩]
    refine ⟨fun hf hv=>?_,fun ht=>by rw [i1.2 ht,i2.2 ht]⟩
    rw [Bool.or_eq_true] at hv ⊢
    exact hv.imp (i1.1 hf) (i2.1 hf)
  rw [if_neg h7,if_neg h7]
  by_cases h8:(nodeAt q a).1=8
  · have hm:=apW h ha (by unfold jL;simp [h8])
    unfold ja
    simp only [h8]
    refine ⟨fun hf hv=>?_,fun ht=>?_⟩
    · rw [hf] at hm;exact hp _ hm _ hv
    · rw [ht] at hm;exact hn _ hm _
  by_cases h9:(nodeAt q a).1=9
  · have hm:=apW h ha (by unfold jL;simp [h9])
    unfold ja
    simp only [h9]
    refine ⟨fun hf hv=>?_,fun ht=>?_⟩
    · rw [hf] at hm
      have hv:(!((f.2.2.2.1==0))&&X (nodeAt q a).2.2.2.1 f.2.2.2.1)=true:=hv
      rw [Bool.and_eq_true] at hv
      show (!((f.2.2.2.1==0))&&Y (nodeAt q a).2.2.2.1 f.2.2.2.1)=true
      rw [Bool.and_eq_true]
      exact ⟨hv.1,hp _ hm _ hv.2⟩
    · rw [ht] at hm
      show (!((f.2.2.2.1==0))&&X (nodeAt q a).2.2.2.1 f.2.2.2.1)=(!((f.2.2.2.1==0))&&Y (nodeAt q a).2.2.2.1 f.2.2.2.1)
      rw [hn _ hm]
  · have:ja (nodeAt q a) f X=ja (nodeAt q a) f Y:=by
     unfold ja
     rw [beq_eq_false_iff_ne.2 h8,beq_eq_false_iff_ne.2 h9];rfl
    rw [this]
    exact ⟨fun _=>id,fun _=>rfl⟩
theorem OT {q:List bJ} {f:aK} {X Y:BX} (hp:∀ s∈fC q false,∀ x,X s x=true→Y s x=true) (hn:∀ s∈fC q true,∀ x,X s x=Y s x) (hm:iW q f X=true):iW q f Y=true:=by
 unfold iW at hm ⊢
 rw [Bool.and_eq_true] at hm ⊢
 have hl:=Gn hm.1
 exact ⟨hm.1,(auC hm.1 hp hn _ (by omega)).1 (asz hm.1) hm.2⟩
theorem alW {fs:List aK} {q:List bJ} {X:BX} {x:Int}:(x,())∈sel fs q X↔∃ f∈fs,f.1=x∧iW q f X=true:=by
 unfold sel
 rw [List.mem_map]
 constructor
 · rintro ⟨f,hf,e⟩
   rw [List.mem_filter] at hf
   exact ⟨f,hf.1,congrArg Prod.fst e,hf.2⟩
 · rintro ⟨f,hf,rfl,hm⟩
   exact ⟨f,List.mem_filter.2 ⟨hf,hm⟩,rfl⟩
theorem aa5 {fs:List aK} {q:List bJ} {X Y:BX} (h:∀ b,∀ s∈fC q b,∀ x,X s x=Y s x):sel fs q X=sel fs q Y:=by
 unfold sel
 congr 1
 apply List.filter_congr
 intro f _
 rw [Bool.eq_iff_iff]
 exact ⟨OT (fun s hs x hx=>by rw [← h false s hs x];exact hx) (fun s hs x=>h true s hs x),OT (fun s hs x hx=>by rw [h false s hs x];exact hx) (fun s hs x=>(h true s hs x).symm)⟩
def Qk (fs:List aK) (d:List aT):Sys Bytes Int where
 T:=fun s X x=>∃ i,i<d.length∧(dX d i).1=s∧(x,())∈sel fs (dX d i).2.1 X
 pos:=fun s t=>∃ i,i<d.length∧(dX d i).1=s∧t∈fC (dX d i).2.1 false
 neg:=fun s t=>∃ i,i<d.length∧(dX d i).1=s∧t∈fC (dX d i).2.1 true
 mono:=fun s X Y hp hn x ⟨i,hi,e,hx⟩=>⟨i,hi,e,by
  obtain ⟨f,hf,e2,hm⟩:=alW.1 hx
  exact alW.2 ⟨f,hf,e2,OT (fun t ht=>hp t ⟨i,hi,e,ht⟩) (fun t ht=>hn t ⟨i,hi,e,ht⟩) hm⟩⟩
end Sp
namespace Go.Fw
open Go
end Go.Fw
namespace Go.Fw
open Go
theorem dh {p:Prop} [Decidable p] {A B:Prop} (h:p) (a:A):cond (decide p) A B:=by rw [decide_eq_true h];exact a
theorem dm {p:Prop} [Decidable p] {A B:Prop} (h:¬ p) (b:B):cond (decide p) A B:=by rw [decide_eq_false h];exact b
theorem jd {B:((Int×Unit)×Unit→Prop)→((Int×Unit)×Unit→Nat)→(Int×Unit)×Unit→Prop} (len:Nat) (hlen:len≤9223372036854775807) (J:Nat→Prop) (h0:J 0)
 (hstep:∀ I μ (n:Nat),n<len→J n→(J (n+1)→I ((IntKind.i64.wrap ((n:Int)+1),()),())∧μ ((IntKind.i64.wrap ((n:Int)+1),()),())<μ (((n:Int),()),()))→B I μ (((n:Int),()),()))
 (hend:∀ I μ,J len→B I μ (((len:Int),()),())):∃ I,∃ μ,I (((0:Int),()),())∧∀ y,I y→B I μ y:=by
 refine ⟨fun y=>∃ n:Nat,y.1.1=n∧n≤len∧J n,fun y=>((len:Int)-y.1.1).toNat,⟨0,rfl,Nat.zero_le _,h0⟩,?_⟩
 rintro ⟨⟨_,⟨⟩⟩,⟨⟩⟩ ⟨n,rfl,hn,hJ⟩
 rcases Nat.lt_or_ge n len with h|h
 · refine hstep _ _ n h hJ fun hJ'=>?_
   have e:IntKind.i64.wrap ((n:Int)+1)=((n+1:Nat):Int):=gu _ (by omega)
   rw [e]
   exact ⟨⟨n+1,rfl,h,hJ'⟩,by show ((len:Int)-(n+1:Nat)).toNat<((len:Int)-n).toNat;omega⟩
 · have:n=len:=by omega
   subst this
   exact hend _ _ hJ
theorem dM {Y S:Type} (mk:Int→S→Y) (idx:Y→Int) (hidx:∀ i s,idx (mk i s)=i) {B:(Y→Prop)→(Y→Nat)→Y→Prop} (len:Nat) (hlen:len≤9223372036854775807) (J:Nat→S→Prop) {s0:S} (h0:J 0 s0)
 (hstep:∀ I μ (n:Nat) (s:S),n<len→J n s→(∀ s',J (n+1) s'→I (mk (IntKind.i64.wrap ((n:Int)+1)) s')∧μ (mk (IntKind.i64.wrap ((n:Int)+1)) s')<μ (mk n s))→B I μ (mk n s))
 (hend:∀ I μ s,J len s→B I μ (mk len s)):∃ I,∃ μ,I (mk 0 s0)∧∀ y,I y→B I μ y:=by
 refine ⟨fun y=>∃ (n:Nat) (s:S),y=mk n s∧n≤len∧J n s,fun y=>((len:Int)-idx y).toNat,⟨0,s0,rfl,Nat.zero_le _,h0⟩,?_⟩
 rintro _ ⟨n,s,rfl,hn,hJ⟩
 rcases Nat.lt_or_ge n len with h|h
 · refine hstep _ _ n s h hJ fun s' hJ'=>?_
   have e:IntKind.i64.wrap ((n:Int)+1)=((n+1:Nat):Int):=gu _ (by omega)
   rw [e]
   refine ⟨⟨n+1,s',rfl,h,hJ'⟩,?_⟩
   show ((len:Int)-idx (mk (n+1:Nat) s')).toNat<((len:Int)-idx (mk n s)).toNat
   rw [hidx,hidx]
   omega
 · have:n=len:=by omega
   subst this
   exact hend _ _ s hJ
theorem Ed {len:Nat} {f:Nat→Bool} {n:Nat} (hn:n<len) (h:f n=false):Sp.jQ len f=false:=by
 unfold Sp.jQ
 rw [List.all_eq_false]
 exact ⟨n,List.mem_range.2 hn,by rw [h];simp⟩
theorem qw {len:Nat} {f:Nat→Bool} (h:∀ i,i<len→f i=true):Sp.jQ len f=true:=by
 unfold Sp.jQ
 rw [List.all_eq_true]
 exact fun i hi=>h i (List.mem_range.1 hi)
theorem aeA {len:Nat} {f:Nat→Bool}:Sp.jQ len f=true↔∀ i,i<len→f i=true:=by
 unfold Sp.jQ
 rw [List.all_eq_true]
 exact ⟨fun h i hi=>h i (List.mem_range.2 hi),fun h i hi=>h i (List.mem_range.1 hi)⟩
theorem eY {n:Nat} {f:Nat→Bool} (h:∀ i,i<n→f i=true) (hn:f n=true):∀ i,i<n+1→f i=true:=fun i hi=>by
 rcases Nat.lt_or_ge i n with h'|h'
 · exact h i h'
 · have:i=n:=by omega
   rw [this];exact hn
theorem fO {b:Bool} (h:(!b)=true):b=false:=by cases b<;>first|rfl|cases h
theorem dI {b:Bool} (h:(!b)=false):b=true:=by cases b<;>first|rfl|cases h
theorem gG {p:Prop} [Decidable p] (h:decide p=true):p:=of_decide_eq_true h
theorem iw {p:Prop} [Decidable p] (h:decide p=false):¬ p:=of_decide_eq_false h
theorem zo {n:Nat} (h:0<n) (hn:n≤9223372036854775807):IntKind.i64.wrap ((n:Int)-1)=((n-1:Nat):Int):=by rw [gu _ (by omega)];omega
theorem Ot {α:Type} {d:α} {a b:List α} (hl:a.length=b.length) (h:∀ i,i<a.length→a.getD i d=b.getD i d):a=b:=by
 refine List.ext_getElem hl fun i h1 h2=>?_
 have:=h i h1
 rw [List.getD_eq_getElem?_getD,List.getD_eq_getElem?_getD,List.getElem?_eq_getElem h1,List.getElem?_eq_getElem h2] at this
 simpa using this
theorem Tz {α β:Type} (e:α→α→Bool) (he:∀ x y,e x y=false↔x=y) (d:α) (a b:List α) (t:β) (hlen:a.length≤9223372036854775807) (hl:a.length=b.length) {K:Bool×Unit→Prop} (hF:a≠b→K (false,())) (hT:a=b→K (true,())):
 ∃ (I:(Int×Unit)×Unit→Prop),∃ (μ:(Int×Unit)×Unit→Nat),I (((0:Int),()),())∧∀ (y:(Int×Unit)×Unit),I y→
   bif decide (y.fst.fst<(a.length:Int)) then
    ((0:Int)≤y.fst.fst∧y.fst.fst<(a.length:Int))∧((0:Int)≤y.fst.fst∧y.fst.fst<(b.length:Int))∧
      (bif e (a.getD (Int.toNat y.fst.fst) d) (b.getD (Int.toNat y.fst.fst) d) then K (false,())
      else t=t∧I ((IntKind.i64.wrap (y.fst.fst+(1:Int)),()),())∧μ ((IntKind.i64.wrap (y.fst.fst+(1:Int)),()),())<μ y)
   else K (true,()):=by
 refine jd a.length hlen (fun n=>∀ i,i<n→a.getD i d=b.getD i d) (fun i hi=>by omega) (fun I μ n hn hJ next=>?_) fun I μ hJ=>(by dsimp only;exact dm (by omega) (hT (Ot hl hJ)))
 dsimp only
 refine dh (by omega) ⟨⟨by omega,by omega⟩,⟨by omega,by omega⟩,af (fun h=>hF fun h'=>?_) fun h=>⟨rfl,next fun i hi=>?_⟩⟩
 · subst h'
   have:=(he (a.getD n d) (a.getD n d)).2 rfl
   have h:e (a.getD n d) (a.getD n d)=true:=h
   rw [this] at h;cases h
 · rcases Nat.lt_or_ge i n with h'|h'
   · exact hJ i h'
   · have:i=n:=by omega
     rw [this];exact (he _ _).1 h
theorem afC {α β:Type} (e:α→α→Bool) (he:∀ x y,e x y=false↔x=y) (d:α) (a b:List α) (t:β) (hlen:a.length≤9223372036854775807) (hl:a.length=b.length) {K:Bool×Unit→Prop} (hF:a≠b→K (false,())) (hT:a=b→K (true,())):
 ∃ (I:(Int×Unit)×Unit→Prop),∃ (μ:(Int×Unit)×Unit→Nat),I (((0:Int),()),())∧∀ (y:(Int×Unit)×Unit),I y→
   bif decide (y.fst.fst<(a.length:Int)) then
    ((0:Int)≤y.fst.fst∧y.fst.fst<(a.length:Int))∧((0:Int)≤y.fst.fst∧y.fst.fst<(b.length:Int))∧True∧
      (bif e (a.getD (Int.toNat y.fst.fst) d) (b.getD (Int.toNat y.fst.fst) d) then K (false,())
      else t=t∧I ((IntKind.i64.wrap (y.fst.fst+(1:Int)),()),())∧μ ((IntKind.i64.wrap (y.fst.fst+(1:Int)),()),())<μ y)
   else K (true,()):=by
 refine jd a.length hlen (fun n=>∀ i,i<n→a.getD i d=b.getD i d) (fun i hi=>by omega) (fun I μ n hn hJ next=>?_) fun I μ hJ=>(by dsimp only;exact dm (by omega) (hT (Ot hl hJ)))
 dsimp only
 refine dh (by omega) ⟨⟨by omega,by omega⟩,⟨by omega,by omega⟩,trivial,af (fun h=>hF fun h'=>?_) fun h=>⟨rfl,next fun i hi=>?_⟩⟩
 · subst h'
   have:=(he (a.getD n d) (a.getD n d)).2 rfl
   have h:e (a.getD n d) (a.getD n d)=true:=h
   rw [this] at h;cases h
 · rcases Nat.lt_or_ge i n with h'|h'
   · exact hJ i h'
   · have:i=n:=by omega
     rw [this];exact (he _ _).1 h
end Go.Fw
namespace Sp
open Go Go.Fw
theorem Z9 {name:Bytes}:∀ (s:List gU) (n:Nat),n<s.length→(∀ i,i<n→(s.getD i ([],0,())).1≠name)→(s.getD n ([],0,())).1=name→kindOf s name=(s.getD n ([],0,())).2.1
 |[],n,h,_,_=>by simp at h
 |f::r,0,_,_,he=>by
  have he:f.1=name:=he
  show (bif decide (f.1=name) then f.2.1 else kindOf r name)=f.2.1
  rw [decide_eq_true he];rfl
 |f::r,n+1,h,hne,he=>by
  have h0:f.1≠name:=hne 0 (by omega)
  show (bif decide (f.1=name) then f.2.1 else kindOf r name)=_
  rw [decide_eq_false h0]
  exact Z9 r n (by simpa using h) (fun i hi=>hne (i+1) (by omega)) he
theorem QF {name:Bytes}:∀ (s:List gU),(∀ i,i<s.length→(s.getD i ([],0,())).1≠name)→kindOf s name=0
 |[],_=>rfl
 |f::r,hne=>by
  have h0:f.1≠name:=hne 0 (by simp)
  show (bif decide (f.1=name) then f.2.1 else kindOf r name)=_
  rw [decide_eq_false h0]
  exact QF r fun i hi=>hne (i+1) (by simp;omega)
theorem aa6 {id:Int}:∀ (s:List aK) (k:Int) (n:Nat),n<s.length→(∀ i,i<n→(fileAt s i).1≠id)→(fileAt s n).1=id→Dv k s id=k+n
 |[],_,n,h,_,_=>by simp at h
 |f::r,k,0,_,_,he=>by
  have he:f.1=id:=he
  show (bif decide (f.1=id) then k else Dv (k+1) r id)=_
  rw [decide_eq_true he];simp
 |f::r,k,n+1,h,hne,he=>by
  have h0:f.1≠id:=hne 0 (by omega)
  show (bif decide (f.1=id) then k else Dv (k+1) r id)=_
  rw [decide_eq_false h0]
  show Dv (k+1) r id=_
  rw [aa6 r (k+1) n (by simpa using h) (fun i hi=>hne (i+1) (by omega)) he]
  omega
theorem TY {id:Int}:∀ (s:List aK) (k:Int),(∀ i,i<s.length→(fileAt s i).1≠id)→Dv k s id=-1
 |[],_,_=>rfl
 |f::r,k,hne=>by
  have h0:f.1≠id:=hne 0 (by simp)
  show (bif decide (f.1=id) then k else Dv (k+1) r id)=_
  rw [decide_eq_false h0]
  exact TY r (k+1) fun i hi=>hne (i+1) (by simp;omega)
theorem JE {id:Int} {s:List aK} {n:Nat} (h:n<s.length) (hne:∀ i,i<n→(fileAt s i).1≠id) (he:(fileAt s n).1=id):place s id=n:=by
 unfold place
 rw [aa6 s 0 n h hne he];omega
theorem U5 {id:Int} {s:List aK} (hne:∀ i,i<s.length→(fileAt s i).1≠id):place s id=-1:=TY s 0 hne
theorem kP (s:List aK) (id:Int):(place s id=-1∧∀ i,i<s.length→(fileAt s i).1≠id)∨∃ n,n<s.length∧place s id=n∧(fileAt s n).1=id∧∀ i,i<n→(fileAt s i).1≠id:=by
 by_cases h:∃ n,n<s.length∧(fileAt s n).1=id
 · obtain ⟨n,h1,h2,h3⟩:=(least s.length (p:=fun n=>(fileAt s n).1=id) h)
   exact .inr ⟨n,h1,JE h1 (fun i hi=>h3 i hi) h2,h2,fun i hi=>h3 i hi⟩
 · have hne:∀ i,i<s.length→(fileAt s i).1≠id:=fun i hi e=>h ⟨i,hi,e⟩
   exact .inl ⟨U5 hne,hne⟩
theorem aer {s:List gU} {n:Nat} (h:n<s.length) (hn:lW s n=false):fM s=false:=by
 unfold fM;rw [Ed h hn];rfl
theorem asA {fs:List gU} {s:List dR} {n:Nat} (h:n<s.length) (hn:kL fs s n=false):lH fs s=false:=Ed h hn
theorem am7 {fs:List gU} {f:aK} {n:Nat} (h:n<f.2.2.2.2.1.length) (hn:kL fs f.2.2.2.2.1 n=false):cO fs f=false:=by
 unfold cO;rw [asA h hn];rfl
theorem aif {s:bZ} {n:Nat} (h:n<s.2.1.length) (hn:lC s n=false):aH s=false:=by
 unfold aH;rw [Ed h hn];rfl
theorem nS {s:bZ} {i:Nat}:lC s i=true↔cO s.1 (fileAt s.2.1 i)=true∧(fileAt s.2.1 i).1<s.2.2.1∧(0<i→(fileAt s.2.1 (i-1)).1<(fileAt s.2.1 i).1):=by
 unfold lC
 rw [Bool.and_eq_true,Bool.and_eq_true,decide_eq_true_eq,and_assoc]
 refine and_congr_right fun _=>and_congr_right fun _=>?_
 by_cases h:0<i
 · simp [h]
 · simp [h]
theorem lK {s:bZ}:aH s=true↔(∀ i,i<s.2.1.length→lC s i=true)∧fM s.1=true∧s.2.1.length≤12∧1≤s.2.2.1∧s.2.2.1≤61:=by
 unfold aH
 rw [Bool.and_eq_true,Bool.and_eq_true,Bool.and_eq_true,Bool.and_eq_true,decide_eq_true_eq,decide_eq_true_eq,decide_eq_true_eq,aeA]
 constructor
 · rintro ⟨⟨⟨h1,h2⟩,h3⟩,h4,h5⟩;exact ⟨h1,h2,by omega,h4,h5⟩
 · rintro ⟨h1,h2,h3,h4,h5⟩;exact ⟨⟨⟨h1,h2⟩,by omega⟩,h4,h5⟩
theorem atL {fs:List gU} {f:aK} (h:cO fs f=true):1≤f.1∧f.1≤60:=by
 unfold cO at h
 simp only [Bool.and_eq_true,decide_eq_true_eq] at h
 exact h.1.1.2
theorem Ro {fs:List aK} {g:aK} {i:Nat} (h:i<fs.length):fileAt (fs++[g]) i=fileAt fs i:=by
 unfold fileAt
 rw [List.getD_eq_getElem?_getD,List.getElem?_append_left h,← List.getD_eq_getElem?_getD]
theorem aqA {fs:List aK} {g:aK}:fileAt (fs++[g]) fs.length=g:=by
 unfold fileAt
 rw [List.getD_eq_getElem?_getD,List.getElem?_append_right (Nat.le_refl _)];simp
theorem apX {s:bZ} {g:aK} (h:aH s=true) (hl:s.2.1.length<12) (hg:cO s.1 g=true) (hid:g.1=s.2.2.1):aH (s.1,s.2.1++[g],s.2.2.1+1,())=true:=by
 obtain ⟨h1,h2,h3,h4,h5⟩:=lK.1 h
 have hg1:=atL hg
 refine lK.2 ⟨fun i hi=>?_,h2,by show (s.2.1++[g]).length≤12;simp;omega,by show 1≤s.2.2.1+1;omega,by show s.2.2.1+1≤61;omega⟩
 have hi:i<(s.2.1++[g]).length:=hi
 rw [List.length_append,List.length_cons,List.length_nil] at hi
 refine nS.2 ?_
 show cO s.1 (fileAt (s.2.1++[g]) i)=true∧(fileAt (s.2.1++[g]) i).1<s.2.2.1+1∧(0<i→(fileAt (s.2.1++[g]) (i-1)).1<(fileAt (s.2.1++[g]) i).1)
 rcases Nat.lt_or_ge i s.2.1.length with hlt|hge
 · obtain ⟨k1,k2,k3⟩:=nS.1 (h1 i hlt)
   rw [Ro hlt]
   refine ⟨k1,by omega,fun h0=>?_⟩
   rw [Ro (by omega)]
   exact k3 h0
 · have e:i=s.2.1.length:=by omega
   subst e
   rw [aqA]
   refine ⟨hg,by omega,fun h0=>?_⟩
   rw [Ro (by omega)]
   have:=(nS.1 (h1 (s.2.1.length-1) (by omega))).2.1
   omega
theorem qV (s:bZ) (f:aK):(dD s f=(s,0,false)∧¬ (aH s=true∧s.2.1.length<12∧cO s.1 (s.2.2.1,f.2)=true))∨
 (aH s=true∧s.2.1.length<12∧cO s.1 (s.2.2.1,f.2)=true∧dD s f=((s.1,s.2.1++[(s.2.2.1,f.2)],s.2.2.1+1,()),s.2.2.1,true)):=by
 by_cases h:aH s=true∧s.2.1.length<12∧cO s.1 (s.2.2.1,f.2)=true
 · right
   refine ⟨h.1,h.2.1,h.2.2,?_⟩
   unfold dD
   dsimp only
   rw [h.1,h.2.2,decide_eq_true (by omega)];rfl
 · left
   refine ⟨?_,h⟩
   have:(aH s&&decide ((s.2.1.length:Int)<12)&&cO s.1 (s.2.2.1,f.2))=false:=by
    cases hb:(aH s&&decide ((s.2.1.length:Int)<12)&&cO s.1 (s.2.2.1,f.2)) with
    |false=>rfl
    |true=>
     simp only [Bool.and_eq_true,decide_eq_true_eq] at hb
     exact (h ⟨hb.1.1,by omega,hb.2⟩).elim
   unfold dD
   dsimp only
   rw [this];rfl
theorem alu {s:bZ} (f:aK) (h:aH s=true):aH (dD s f).1=true:=by
 rcases qV s f with ⟨e,_⟩|⟨h1,h2,h3,e⟩
 · rw [e];exact h
 · rw [e];exact apX h1 h2 h3 rfl
theorem anX {s:bZ} {f:aK} (h:bG s) (hf:bW f):bG (dD s f).1:=by
 rcases qV s f with ⟨e,_⟩|⟨h1,h2,h3,e⟩
 · rw [e];exact h
 · rw [e]
   refine ⟨h.1,by show (s.2.1++[(s.2.2.1,f.2)]).length≤1000;simp;omega,fun g hg=>?_⟩
   have hg:g∈s.2.1++[(s.2.2.1,f.2)]:=hg
   rcases List.mem_append.1 hg with hg|hg
   · exact h.2.2 g hg
   · have:g=(s.2.2.1,f.2):=by simpa using hg
     subst this;exact hf
theorem zO (s:bZ) (id:Int):(fP s id=(s,false)∧¬ (aH s=true∧0≤place s.2.1 id))∨
 ∃ n,n<s.2.1.length∧place s.2.1 id=n∧aH s=true∧fP s id=((s.1,s.2.1.eraseIdx n,s.2.2.1,()),true):=by
 rcases kP s.2.1 id with ⟨h,_⟩|⟨n,hn,h,_,_⟩
 · left
   refine ⟨?_,fun h'=>by omega⟩
   unfold fP
   rw [h];simp
 · cases ho:aH s with
   |false=>
    left
    refine ⟨?_,fun h'=>by cases h'.1⟩
    unfold fP
    rw [ho];rfl
   |true=>
    right
    refine ⟨n,hn,h,rfl,?_⟩
    unfold fP
    rw [ho,h,decide_eq_false (by omega),Int.toNat_natCast];rfl
theorem aa7 {fs:List aK} {n i:Nat}:fileAt (fs.eraseIdx n) i=if i<n then fileAt fs i else fileAt fs (i+1):=by
 unfold fileAt
 rw [List.getD_eq_getElem?_getD,List.getElem?_eraseIdx]
 split<;>rw [List.getD_eq_getElem?_getD]
theorem an3 {s:bZ} {n:Nat} (h:aH s=true) (hn:n<s.2.1.length):aH (s.1,s.2.1.eraseIdx n,s.2.2.1,())=true:=by
 obtain ⟨h1,h2,h3,h4,h5⟩:=lK.1 h
 have hlen:(s.2.1.eraseIdx n).length=s.2.1.length-1:=List.length_eraseIdx_of_lt hn
 refine lK.2 ⟨fun i hi=>?_,h2,by show (s.2.1.eraseIdx n).length≤12;omega,h4,h5⟩
 have hi:i<(s.2.1.eraseIdx n).length:=hi
 refine nS.2 ?_
 show cO s.1 (fileAt (s.2.1.eraseIdx n) i)=true∧(fileAt (s.2.1.eraseIdx n) i).1<s.2.2.1∧(0<i→(fileAt (s.2.1.eraseIdx n) (i-1)).1<(fileAt (s.2.1.eraseIdx n) i).1)
 rw [aa7,aa7]
 rcases Nat.lt_or_ge i n with hlt|hge
 · rw [if_pos hlt]
   obtain ⟨k1,k2,k3⟩:=nS.1 (h1 i (by omega))
   refine ⟨k1,k2,fun h0=>?_⟩
   rw [if_pos (by omega)]
   exact k3 h0
 · rw [if_neg (by omega)]
   obtain ⟨k1,k2,k3⟩:=nS.1 (h1 (i+1) (by omega))
   refine ⟨k1,k2,fun h0=>?_⟩
   have k3:=k3 (by omega)
   rw [Nat.add_sub_cancel] at k3
   split
   · have:=(nS.1 (h1 i (by omega))).2.2 h0
     omega
   · rw [show i-1+1=i by omega]
     exact k3
theorem alv {s:bZ} (id:Int) (h:aH s=true):aH (fP s id).1=true:=by
 rcases zO s id with ⟨e,_⟩|⟨n,hn,_,ho,e⟩
 · rw [e];exact h
 · rw [e];exact an3 ho hn
theorem anY {s:bZ} (id:Int) (h:bG s):bG (fP s id).1:=by
 rcases zO s id with ⟨e,_⟩|⟨n,hn,_,ho,e⟩
 · rw [e];exact h
 · rw [e]
   refine ⟨h.1,?_,fun g hg=>h.2.2 g (List.mem_of_mem_eraseIdx hg)⟩
   show (s.2.1.eraseIdx n).length≤1000
   have:=h.2.1
   rw [List.length_eraseIdx_of_lt hn];omega
theorem jC (s:bZ) (f:aK):(aP s f=(s,false)∧¬ (aH s=true∧0≤place s.2.1 f.1∧cO s.1 f=true))∨
 ∃ n,n<s.2.1.length∧place s.2.1 f.1=n∧aH s=true∧cO s.1 f=true∧aP s f=((s.1,s.2.1.set n f,s.2.2.1,()),true):=by
 rcases kP s.2.1 f.1 with ⟨h,_⟩|⟨n,hn,h,_,_⟩
 · left
   refine ⟨?_,fun h'=>by omega⟩
   unfold aP
   rw [h];simp
 · cases ho:aH s with
   |false=>
    left
    refine ⟨?_,fun h'=>by cases h'.1⟩
    unfold aP
    rw [ho];rfl
   |true=>
    cases hf:cO s.1 f with
    |false=>
     left
     refine ⟨?_,fun h'=>by cases h'.2.2⟩
     unfold aP
     rw [hf,Bool.and_false];rfl
    |true=>
     right
     refine ⟨n,hn,h,rfl,rfl,?_⟩
     unfold aP
     rw [ho,hf,h,decide_eq_false (by omega),Int.toNat_natCast];rfl
theorem TQ {s:bZ} {f:aK} (h:bG s) (hf:bW f):bG (aP s f).1:=by
 rcases jC s f with ⟨e,_⟩|⟨n,hn,_,ho,_,e⟩
 · rw [e];exact h
 · rw [e]
   refine ⟨h.1,by show (s.2.1.set n f).length≤1000;rw [List.length_set];exact h.2.1,fun g hg=>?_⟩
   rcases List.mem_or_eq_of_mem_set hg with hg|rfl
   · exact h.2.2 g hg
   · exact hf
theorem VZ {s:List aK} {f:aK} (h:f∈s):∃ i,i<s.length∧fileAt s i=f:=by
 obtain ⟨i,hi,rfl⟩:=List.getElem_of_mem h
 refine ⟨i,hi,?_⟩
 unfold fileAt
 rw [List.getD_eq_getElem?_getD,List.getElem?_eq_getElem hi];rfl
theorem ajq {s:List aK} {i:Nat} (h:i<s.length):fileAt s i∈s:=getD_mem h
theorem atM (s:List aK) (id:Int):place s id<0↔∀ f∈s,f.1≠id:=by
 rcases kP s id with ⟨h,h2⟩|⟨n,hn,h,h2,_⟩
 · refine ⟨fun _ f hf=>?_,fun _=>by omega⟩
   obtain ⟨i,hi,rfl⟩:=VZ hf
   exact h2 i hi
 · refine ⟨fun h'=>by omega,fun h'=>(h' _ (ajq hn) h2).elim⟩
theorem aa8 (s:bZ) (id:Int):(au s id).2=!decide (place s.2.1 id<0):=by
 unfold au
 cases decide (place s.2.1 id<0)<;>rfl
theorem alX (s:bZ) (id:Int):(au s id).2=true↔∃ f∈s.2.1,f.1=id:=by
 rw [aa8,Bool.not_eq_true',decide_eq_false_iff_not,atM]
 constructor
 · intro h
   refine Classical.byContradiction fun hno=>h fun f hf e=>hno ⟨f,hf,e⟩
 · rintro ⟨f,hf,e⟩ h
   exact h f hf e
theorem apY {s:bZ} (h:aH s=true):∀ (j i:Nat),i<j→j<s.2.1.length→(fileAt s.2.1 i).1<(fileAt s.2.1 j).1
 |0,i,hi,_=>by omega
 |j+1,i,hi,hj=>by
  have h1:=(nS.1 ((lK.1 h).1 (j+1) hj)).2.2 (by omega)
  rw [Nat.add_sub_cancel] at h1
  rcases Nat.lt_or_ge i j with h2|h2
  · have:=apY h j i h2 (by omega)
    omega
  · have:i=j:=by omega
    rw [this];exact h1
theorem alJ {s:bZ} (h:aH s=true) {f g:aK} (hf:f∈s.2.1) (hg:g∈s.2.1) (e:f.1=g.1):f=g:=by
 obtain ⟨i,hi,rfl⟩:=VZ hf
 obtain ⟨j,hj,rfl⟩:=VZ hg
 rcases Nat.lt_trichotomy i j with h1|h1|h1
 · have:=apY h j i h1 hj;omega
 · rw [h1]
 · have:=apY h i j h1 hi;omega
theorem Og {α:Type} {p:α→Bool} {d:α}:∀ (l:List α) (n:Nat),n≤l.length→(∀ i,i<n→p (l.getD i d)=true)→(n<l.length→p (l.getD n d)=false)→l.takeWhile p=l.take n∧l.dropWhile p=l.drop n
 |[],n,h,_,_=>by simp
 |x::r,0,_,_,h=>by
  have h:p x=false:=h (by simp)
  constructor<;>simp [h]
 |x::r,n+1,hn,h1,h2=>by
  have h0:p x=true:=h1 0 (by omega)
  have:=Og r n (by simpa using hn) (fun i hi=>h1 (i+1) (by omega)) fun hlt=>h2 (by simpa using hlt)
  constructor<;>simp [h0,this.1,this.2]
theorem ajr {fs:List aK} {n i:Nat} {f:aK} (hn:n<fs.length):fileAt (fs.set n f) i=if n=i then f else fileAt fs i:=by
 unfold fileAt
 rw [List.getD_eq_getElem?_getD,List.getElem?_set,List.getD_eq_getElem?_getD]
 split
 · rfl
 · rfl
theorem aqB {s:bZ} {n:Nat} {f:aK} (h:aH s=true) (hn:n<s.2.1.length) (hf:cO s.1 f=true) (he:(fileAt s.2.1 n).1=f.1):aH (s.1,s.2.1.set n f,s.2.2.1,())=true:=by
 obtain ⟨h1,h2,h3,h4,h5⟩:=lK.1 h
 have hid:∀ i,(fileAt (s.2.1.set n f) i).1=(fileAt s.2.1 i).1:=fun i=>by
  rw [ajr hn]
  split
  · rename_i e;rw [← e,he]
  · rfl
 refine lK.2 ⟨fun i hi=>?_,h2,by show (s.2.1.set n f).length≤12;rw [List.length_set];exact h3,h4,h5⟩
 have hi:i<(s.2.1.set n f).length:=hi
 rw [List.length_set] at hi
 obtain ⟨k1,k2,k3⟩:=nS.1 (h1 i hi)
 refine nS.2 ?_
 show cO s.1 (fileAt (s.2.1.set n f) i)=true∧(fileAt (s.2.1.set n f) i).1<s.2.2.1∧(0<i→(fileAt (s.2.1.set n f) (i-1)).1<(fileAt (s.2.1.set n f) i).1)
 rw [hid,hid]
 refine ⟨?_,k2,k3⟩
 rw [ajr hn]
 split
 · exact hf
 · exact k1
theorem IZ {s:bZ} (f:aK) (h:aH s=true):aH (aP s f).1=true:=by
 rcases jC s f with ⟨e,_⟩|⟨n,hn,hp,ho,hf,e⟩
 · rw [e];exact h
 · rw [e]
   refine aqB ho hn hf ?_
   rcases kP s.2.1 f.1 with ⟨h',_⟩|⟨m,hm,h',h2,_⟩
   · omega
   · rw [← h2,show n=m by omega]
theorem aqC {s:bZ} {id:Int} (h:(au s id).2=true):(au s id).1∈s.2.1∧(au s id).1.1=id:=by
 rw [aa8,Bool.not_eq_true',decide_eq_false_iff_not] at h
 rcases kP s.2.1 id with ⟨h',_⟩|⟨n,hn,h',h2,_⟩
 · omega
 · have e:(au s id).1=fileAt s.2.1 n:=by
    unfold au
    rw [decide_eq_false h,h',Int.toNat_natCast];rfl
   rw [e]
   exact ⟨ajq hn,h2⟩
theorem apZ {s:bZ} {f:aK} (h:aH s=true) (hf:f∈s.2.1):au s f.1=(f,true):=by
 have h2:(au s f.1).2=true:=(alX s f.1).2 ⟨f,hf,rfl⟩
 obtain ⟨h3,h4⟩:=aqC h2
 exact Prod.ext (alJ h h3 hf h4) h2
theorem an0 {s:bZ} {f:aK} (h:(aP s f).2=true):au (aP s f).1 f.1=(f,true)∧aH (aP s f).1=true:=by
 rcases jC s f with ⟨e,_⟩|⟨n,hn,hp,ho,hf,e⟩
 · rw [e] at h;cases h
 · have h4:=IZ f ho
   rw [e] at h4 ⊢
   exact ⟨apZ h4 (List.mem_iff_getElem.2 ⟨n,by simpa using hn,by simp⟩),h4⟩
end Sp
namespace Sp
open Go Go.Fw
theorem aeF {α:Type} {p:α→Bool} {d:α}:∀ (s:List α) (k:Int) (n:Nat),n<s.length→(∀ i,i<n→p (s.getD i d)=false)→p (s.getD n d)=true→E8 p k s=k+n
 |[],_,n,h,_,_=>by simp at h
 |f::r,k,0,_,_,he=>by
  have he:p f=true:=he
  show (bif p f then k else E8 p (k+1) r)=_
  rw [he];simp
 |f::r,k,n+1,h,hne,he=>by
  have h0:p f=false:=hne 0 (by omega)
  show (bif p f then k else E8 p (k+1) r)=_
  rw [h0]
  show E8 p (k+1) r=_
  rw [aeF r (k+1) n (by simpa using h) (fun i hi=>hne (i+1) (by omega)) he]
  omega
theorem Xb {α:Type} {p:α→Bool} {d:α}:∀ (s:List α) (k:Int),(∀ i,i<s.length→p (s.getD i d)=false)→E8 p k s=-1
 |[],_,_=>rfl
 |f::r,k,hne=>by
  have h0:p f=false:=hne 0 (by simp)
  show (bif p f then k else E8 p (k+1) r)=_
  rw [h0]
  exact Xb r (k+1) fun i hi=>hne (i+1) (by simp;omega)
theorem ank {α:Type} {p:α→Bool} {d:α} {s:List α} {n:Nat} (h:n<s.length) (hne:∀ i,i<n→p (s.getD i d)=false) (he:p (s.getD n d)=true):findAt p s=n:=by
 unfold findAt;rw [aeF s 0 n h hne he];omega
theorem aeG {α:Type} {p:α→Bool} {d:α} {s:List α} (hne:∀ i,i<s.length→p (s.getD i d)=false):findAt p s=-1:=Xb s 0 hne
theorem OM {α:Type} (p:α→Bool) (d:α) (s:List α):(findAt p s=-1∧∀ i,i<s.length→p (s.getD i d)=false)∨∃ n,n<s.length∧findAt p s=n∧p (s.getD n d)=true∧∀ i,i<n→p (s.getD i d)=false:=by
 by_cases h:∃ n,n<s.length∧p (s.getD n d)=true
 · obtain ⟨n,h1,h2,h3⟩:=least s.length (p:=fun n=>p (s.getD n d)=true) h
   have h3:∀ i,i<n→p (s.getD i d)=false:=fun i hi=>by simpa using h3 i hi
   exact .inr ⟨n,h1,ank h1 h3 h2,h2,h3⟩
 · have hne:∀ i,i<s.length→p (s.getD i d)=false:=fun i hi=>by
    cases hp:p (s.getD i d) with
    |false=>rfl
    |true=>exact (h ⟨i,hi,hp⟩).elim
   exact .inl ⟨aeG hne,hne⟩
theorem J7:∀ a:Bytes,Op.bytesLess a a=false
 |[]=>rfl
 |x::a=>by
  show (decide (x<x)||(x==x&&Op.bytesLess a a))=false
  rw [J7 a,decide_eq_false (UInt8.lt_irrefl x),Bool.and_false];rfl
theorem VB:∀ a b:Bytes,Op.bytesLess a b=false→a≠b→Op.bytesLess b a=true
 |[],[],_,h=>(h rfl).elim
 |x::a,[],_,_=>rfl
 |[],y::b,h,_=>by cases h
 |x::a,y::b,h,hne=>by
  have h:(decide (x<y)||(x==y&&Op.bytesLess a b))=false:=h
  show (decide (y<x)||(y==x&&Op.bytesLess b a))=true
  rw [Bool.or_eq_false_iff,decide_eq_false_iff_not] at h
  by_cases e:x=y
  · subst e
    have h2:Op.bytesLess a b=false:=by simpa using h.2
    rw [VB a b h2 (fun e=>hne (by rw [e]))]
    simp
  · have:y<x:=by
     have h1:¬ x.toNat<y.toNat:=fun hh=>h.1 (UInt8.lt_iff_toNat_lt.2 hh)
     have h2:x.toNat≠y.toNat:=fun hh=>e (UInt8.toNat_inj.1 hh)
     exact UInt8.lt_iff_toNat_lt.2 (by omega)
    rw [decide_eq_true this];rfl
theorem atN {x y:UInt8} {a b:Bytes}:Op.bytesLess (x::a) (y::b)=true↔x.toNat<y.toNat∨(x=y∧Op.bytesLess a b=true):=by
 show (decide (x<y)||(x==y&&Op.bytesLess a b))=true↔_
 rw [Bool.or_eq_true,decide_eq_true_eq,Bool.and_eq_true,beq_iff_eq,UInt8.lt_iff_toNat_lt]
theorem I5:∀ a b c:Bytes,Op.bytesLess a b=true→Op.bytesLess b c=true→Op.bytesLess a c=true
 |_,[],_,h,_=>by cases h':(‹Bytes›:Bytes)<;>simp_all [Op.bytesLess]
 |_,_::_,[],_,h=>by cases h
 |[],_::_,_::_,_,_=>rfl
 |x::a,y::b,z::c,h1,h2=>by
  rw [atN] at h1 h2 ⊢
  rcases h1 with h1|⟨rfl,h1⟩
  · rcases h2 with h2|⟨rfl,h2⟩
    · exact .inl (by omega)
    · exact .inl h1
  · rcases h2 with h2|⟨rfl,h2⟩
    · exact .inl h2
    · exact .inr ⟨rfl,I5 a b c h1 h2⟩
theorem acg {a b:Bytes} (h:Op.bytesLess a b=true):a≠b:=fun e=>by rw [e,J7] at h;cases h
theorem asB {a b:Bytes} (h:Op.bytesLess a b=true):Op.bytesLess b a=false:=by
 cases hb:Op.bytesLess b a with
 |false=>rfl
 |true=>have:=I5 a b a h hb;rw [J7] at this;cases this
theorem apN (a b:Bytes):(!(Op.bytesLess a b||a==b))=Op.bytesLess b a:=by
 cases h:Op.bytesLess a b with
 |true=>rw [asB h];rfl
 |false=>
  by_cases e:a=b
  · subst e;rw [J7];simp
  · rw [VB a b h e]
    simp [e]
end Sp
namespace Sp
open Go
def nameOf (d:List aT) (i:Nat):Bytes:=(dX d i).1
def dW (d:List aT) (i:Nat):List bJ:=(dX d i).2.1
def vW (r:List dN) (i:Nat):dN:=r.getD i ([],[],())
def iU (r:List dN) (i:Nat):List (Int×Unit):=(vW r i).2.1
def lg (d:List aT) (aG:List (Int×Unit)):Prop:=
 aG.length=d.length∧(∀ i,i<d.length→0≤lv aG i∧lv aG i≤d.length)∧(jo (dV d) fun i=>(lv aG i).toNat)∧∀ M,jo (dV d) M→∀ i,i<d.length→lv aG i≤M i
theorem aas {d:List aT} {a b:List (Int×Unit)} (h1:lg d a) (h2:lg d b):a=b:=by
 refine atx (h1.1.trans h2.1.symm) fun i hi=>?_
 have hi:i<d.length:=by rw [← h1.1];exact hi
 have a1:=h1.2.2.2 _ h2.2.2.1 i hi
 have a2:=h2.2.2.2 _ h1.2.2.1 i hi
 have:=(h1.2.1 i hi).1
 have:=(h2.2.1 i hi).1
 omega
theorem asj {d:List aT} (h:∃ M,jo (dV d) M∧∀ i,i<d.length→M i<d.length):∃ s,lg d s:=by
 have hE:=mQ d
 have hmin:∀ i,∃ m,(∃ M,jo (dV d) M∧M i=m)∧∀ M,jo (dV d) M→m≤M i:=fun i=>by
  obtain ⟨M0,h0,_⟩:=h
  have:∀ n,(∃ M,jo (dV d) M∧M i=n)→∃ m,(∃ M,jo (dV d) M∧M i=m)∧∀ M,jo (dV d) M→m≤M i:=by
   intro n
   induction n using Nat.strongRecOn with
   |_ n ih=>
    intro hn
    by_cases hl:∃ M,jo (dV d) M∧M i<n
    · obtain ⟨M,h1,h2⟩:=hl
      exact ih _ h2 ⟨M,h1,rfl⟩
    · exact ⟨n,hn,fun M hM=>Nat.le_of_not_lt fun hlt=>hl ⟨M,hM,hlt⟩⟩
  exact this (M0 i) ⟨M0,h0,rfl⟩
 obtain ⟨L,hL⟩:=Classical.axiomOfChoice hmin
 have hfix:jo (dV d) L:=fun e he=>by
  obtain ⟨⟨M,h1,h2⟩,_⟩:=hL e.1
  have a:=(hL e.2.1).2 M h1
  have b:=h1 e he
  rw [← h2];omega
 have hlv:∀ i,i<d.length→lv ((List.range d.length).map fun i=>((L i:Int),())) i=L i:=fun i hi=>by
  unfold lv
  rw [List.getD_eq_getElem?_getD,List.getElem?_map,List.getElem?_range hi];rfl
 refine ⟨(List.range d.length).map fun i=>((L i:Int),()),by simp,fun i hi=>?_,fun e he=>?_,fun M hM i hi=>?_⟩
 · rw [hlv i hi]
   obtain ⟨M,h1,h2⟩:=h
   have:=(hL i).2 M h1
   have:=h2 i hi
   omega
 · obtain ⟨h1,h2,_⟩:=hE e he
   have:=hfix e he
   dsimp only
   rw [hlv _ h1,hlv _ h2]
   omega
 · rw [hlv i hi]
   have:=(hL i).2 M hM
   omega
def Lm (d:List aT) (aG:List (Int×Unit)) (s:Bytes):Nat:=(lv aG (aU d s).toNat).toNat
def due (d:List aT) (nm:Bytes→Bool) (s:Bytes):Prop:=nm s=true∧∃ i,i<d.length∧nameOf d i=s
theorem atO {d:List aT} (h:gV d=true) {i:Nat} (hi:i<d.length):bQ (dW d i)=true∧(0<i→Op.bytesLess (nameOf d (i-1)) (nameOf d i)=true):=by
 unfold gV at h
 rw [Bool.and_eq_true] at h
 have h1:oI d i=true:=by
  have:=h.1
  unfold jQ at this
  exact List.all_eq_true.1 this i (List.mem_range.2 hi)
 unfold oI at h1
 rw [Bool.and_eq_true,Bool.and_eq_true] at h1
 refine ⟨h1.1.2,fun h0=>?_⟩
 have:=h1.2
 rw [decide_eq_true h0] at this
 simpa [nameOf] using this
theorem alY {d:List aT} (h:gV d=true):∀ (j i:Nat),i<j→j<d.length→Op.bytesLess (nameOf d i) (nameOf d j)=true
 |0,i,hi,_=>by omega
 |j+1,i,hi,hj=>by
  have h1:=(atO h hj).2 (by omega)
  rcases Nat.lt_or_ge i j with h2|h2
  · exact I5 _ _ _ (alY h j i h2 (by omega)) h1
  · have:i=j:=by omega
    subst this;exact h1
theorem GY {d:List aT} (h:gV d=true) {i j:Nat} (hi:i<d.length) (hj:j<d.length) (e:nameOf d i=nameOf d j):i=j:=by
 rcases Nat.lt_trichotomy i j with h1|h1|h1
 · exact (acg (alY h j i h1 hj) e).elim
 · exact h1
 · exact (acg (alY h i j h1 hi) e.symm).elim
theorem V3 {d:List aT} (h:gV d=true) {i:Nat} (hi:i<d.length):aU d (nameOf d i)=i:=by
 rcases Fv d (nameOf d i) with ⟨_,h2⟩|⟨n,h1,h2,h3,_⟩
 · refine (h2 (dX d i) ?_ rfl).elim
   unfold dX
   rw [List.getD_eq_getElem?_getD,List.getElem?_eq_getElem hi]
   exact List.getElem_mem hi
 · rw [h2,GY h h1 hi h3]
theorem Bd {d:List aT} (h:gV d=true) {aG:List (Int×Unit)} {i:Nat} (hi:i<d.length):Lm d aG (nameOf d i)=(lv aG i).toNat:=by
 unfold Lm;rw [V3 h hi];rfl
theorem GZ {fs:List aK} {d:List aT} (h:gV d=true) {aG:List (Int×Unit)} (hl:lg d aG) (nm:Bytes→Bool):aos (Qk fs d) (due d nm) (Lm d aG):=by
 intro s t _ ht
 obtain ⟨_,j,hj,rfl⟩:=ht
 have edge:∀ i,i<d.length→∀ m b,(m=0∧b=false∨m=1∧b=true)→nameOf d j∈fC (dW d i) b→(lv aG j).toNat+m≤(lv aG i).toNat:=fun i hi m b hm hd=>by
  refine hl.2.2.1 (i,j,m) (EY.2 ⟨hi,nameOf d j,?_,by rw [V3 h hj];omega,by rw [V3 h hj];rfl⟩)
  rcases hm with ⟨a,b⟩|⟨a,b⟩
  · subst a b;exact .inl ⟨rfl,hd⟩
  · subst a b;exact .inr ⟨rfl,hd⟩
 refine ⟨?_,?_⟩
 · rintro ⟨i,hi,rfl,hd⟩
   rw [show (dX d i).1=nameOf d i from rfl,Bd h hi,Bd h hj]
   exact edge i hi 0 false (.inl ⟨rfl,rfl⟩) hd
 · rintro ⟨i,hi,rfl,hd⟩
   rw [show (dX d i).1=nameOf d i from rfl,Bd h hi,Bd h hj]
   exact edge i hi 1 true (.inr ⟨rfl,rfl⟩) hd
def wV (d:List aT) (out:List dN):Prop:=out.length=d.length∧∀ i,i<d.length→(vW out i).1=nameOf d i
theorem JZ:∀ {r:List dN} {s:Bytes},(∀ i,i<r.length→(vW r i).1≠s)→fG r s=[]
 |[],_,_=>rfl
 |x::r,s,h=>by
  have h0:x.1≠s:=h 0 (by simp)
  rw [fG,beq_eq_false_iff_ne.2 h0]
  exact JZ fun i hi=>h (i+1) (by simpa using hi)
theorem aao:∀ {r:List dN} {i:Nat},i<r.length→(∀ j,j<i→(vW r j).1≠(vW r i).1)→fG r (vW r i).1=iU r i
 |[],i,h,_=>by simp at h
 |x::r,0,_,_=>by
  show fG (x::r) x.1=x.2.1
  rw [fG,beq_iff_eq.2 rfl];rfl
 |x::r,i+1,h,hn=>by
  have h0:x.1≠(vW r i).1:=hn 0 (by omega)
  show fG (x::r) (vW r i).1=iU r i
  rw [fG,beq_eq_false_iff_ne.2 h0]
  exact aao (by simpa using h) fun j hj=>hn (j+1) (by omega)
theorem yu {d:List aT} (h:gV d=true) {out:List dN} (ho:wV d out) {i:Nat} (hi:i<d.length):fG out (nameOf d i)=iU out i:=by
 rw [← ho.2 i hi]
 refine aao (by rw [ho.1];exact hi) fun j hj e=>?_
 rw [ho.2 j (by omega),ho.2 i hi] at e
 have:=GY h (by omega) hi e
 omega
theorem KQ {d:List aT} {out:List dN} (ho:wV d out) {s:Bytes} (hs:∀ i,i<d.length→nameOf d i≠s):fG out s=[]:=
 JZ fun i hi=>by rw [ho.1] at hi;rw [ho.2 i hi];exact hs i hi
structure iD (fs:List aK) (d:List aT) (r:List dN) (nm:Bytes→Bool) (out:List dN):Prop where
 order:wV d out
 kept:∀ i,i<d.length→nm (nameOf d i)=false→iU out i=fG r (nameOf d i)
 fix:∀ i,i<d.length→nm (nameOf d i)=true→iU out i=sel fs (dW d i) (bD out)
 aG:∃ aG,lg d aG∧Eval (Qk fs d) (due d nm) (Lm d aG) (bD out)
theorem aci {a b:List (Int×Unit)} (h:a=b) (x:Int):fF a x=fF b x:=by rw [h]
theorem ark {d:List aT} {a b:List dN} (ha:wV d a) (hb:wV d b) (h:∀ i,i<d.length→iU a i=iU b i):a=b:=by
 refine List.ext_getElem (ha.1.trans hb.1.symm) fun i h1 h2=>?_
 have hi:i<d.length:=by rw [← ha.1];exact h1
 have e1:=ha.2 i hi
 have e2:=hb.2 i hi
 have e3:=h i hi
 unfold iU at e3
 unfold vW at e1 e2 e3
 rw [List.getD_eq_getElem?_getD,List.getElem?_eq_getElem h1] at e1 e3
 rw [List.getD_eq_getElem?_getD,List.getElem?_eq_getElem h2] at e2 e3
 simp only [Option.getD_some] at e1 e2 e3
 exact Prod.ext (e1.trans e2.symm) (Prod.ext e3 rfl)
theorem aaA {fs:List aK} {d:List aT} {r:List dN} {nm:Bytes→Bool} {a b:List dN} (h:gV d=true) (ha:iD fs d r nm a) (hb:iD fs d r nm b):a=b:=by
 obtain ⟨l1,hl1,e1⟩:=ha.aG
 obtain ⟨l2,hl2,e2⟩:=hb.aG
 have off:∀ s,¬ due d nm s→∀ x,bD a s x=bD b s x:=fun s hs x=>by
  by_cases hd:∃ i,i<d.length∧nameOf d i=s
  · obtain ⟨i,hi,rfl⟩:=hd
    have hn:nm (nameOf d i)=false:=by
     rw [Bool.eq_false_iff];exact fun hn=>hs ⟨hn,i,hi,rfl⟩
    exact aci (by rw [yu h ha.order hi,yu h hb.order hi,ha.kept i hi hn,hb.kept i hi hn]) x
  · have hd':∀ i,i<d.length→nameOf d i≠s:=fun i hi e=>hd ⟨i,hi,e⟩
    exact aci (by rw [KQ ha.order hd',KQ hb.order hd']) x
 have key:=Rn (U:=due d nm) e1 e2 (GZ h hl1 nm) (GZ h hl2 nm) (fun _ h=>h) (fun _ h=>h) (fun _ _ _ _=>Iff.rfl) (fun _ _ _ h=>h) (fun _ _ _ h=>h)
  fun i _ j _=>Classical.or_iff_not_imp_left.2 (off j)
 have all:bD a=bD b:=by
  funext s x
  by_cases hs:due d nm s
  · exact key s hs x
  · exact off s hs x
 refine ark ha.order hb.order fun i hi=>?_
 cases hn:nm (nameOf d i) with
 |false=>rw [ha.kept i hi hn,hb.kept i hi hn]
 |true=>rw [ha.fix i hi hn,hb.fix i hi hn,all]
def acj {ι α:Type} (S:Sys ι α) (N:ι→Prop) (aG:ι→Nat) (k:Nat) (X:Ext ι α):Prop:=
 ∀ Y:Ext ι α,(∀ i,¬ (N i∧aG i=k)→∀ x,Y i x=X i x)→(∀ i,N i→aG i=k→∀ x,S.T i Y x→Y i x=true)→∀ i,N i→aG i=k→∀ x,X i x=true→Y i x=true
open Classical in
theorem alZ {ι α:Type} {S:Sys ι α} {N:ι→Prop} {aG:ι→Nat} (hs:aos S N aG) {m:Nat} {X X':Ext ι α} (h:∀ i,¬ (N i∧m<aG i)→∀ x,X i x=X' i x) (hX:acj S N aG m X):acj S N aG m X':=by
 intro Y hY hp i hi hl x hx
 have key:=hX (fun i x=>if N i∧m<aG i then X i x else Y i x) (fun j hj y=>?_) (fun j hj hlj y hy=>?_) i hi hl x (by rw [h i (by omega)];exact hx)
 · rw [if_neg (by omega)] at key;exact key
 · by_cases hc:N j∧m<aG j
   · rw [if_pos hc]
   · rw [if_neg hc,hY j hj,h j hc]
 · rw [if_neg (by omega)]
   have same:∀ t,(S.pos j t∨S.neg j t)→¬ (N t∧m<aG t):=fun t ht hc=>by
    rcases ht with ht|ht
    · have:=(hs j t hj hc.1).1 ht;omega
    · have:=(hs j t hj hc.1).2 ht;omega
   refine hp j hj hlj y (S.mono j _ Y (fun t ht z hz=>?_) (fun t ht z=>?_) y hy)
   · rw [if_neg (same t (.inl ht))] at hz;exact hz
   · rw [if_neg (same t (.inr ht))]
def canon (fs:List aK) (l:List (Int×Unit)):Prop:=l=(fs.filter fun f=>fF l f.1).map fun f=>(f.1,())
def distinct (fs:List aK):Prop:=∀ f∈fs,∀ g∈fs,f.1=g.1→f=g
theorem atP {fs:List aK} (hd:distinct fs) (q:List bJ) (X:BX):canon fs (sel fs q X):=by
 show _=List.map _ (List.filter _ _)
 conv=>lhs;unfold sel
 congr 1
 apply List.filter_congr
 intro f hf
 rw [Bool.eq_iff_iff,HY,alW]
 exact ⟨fun h=>⟨f,hf,rfl,h⟩,fun ⟨g,hg,e,hm⟩=>by rw [hd f hf g hg e.symm];exact hm⟩
theorem anl {fs:List aK} {l:List (Int×Unit)} (h:canon fs l):l.length≤fs.length:=by
 rw [h,List.length_map];exact List.length_filter_le _ _
theorem filter_lt {α:Type} {p q:α→Bool} (h:∀ x,p x=true→q x=true):∀ {l:List α},(∃ x∈l,q x=true∧p x=false)→(l.filter p).length<(l.filter q).length
 |[],h'=>by obtain ⟨x,hx,_⟩:=h';cases hx
 |y::r,h'=>by
  have le:(r.filter p).length≤(r.filter q).length:=by
   clear h'
   induction r with
   |nil=>exact Nat.le_refl _
   |cons z t ih=>
    cases hp:p z with
    |true=>rw [List.filter_cons_of_pos hp,List.filter_cons_of_pos (h z hp)];simpa using ih
    |false=>
     rw [List.filter_cons_of_neg (by simp [hp])]
     cases hq:q z with
     |true=>rw [List.filter_cons_of_pos hq];exact Nat.le_succ_of_le ih
     |false=>rw [List.filter_cons_of_neg (by simp [hq])];exact ih
  obtain ⟨x,hx,hq,hp⟩:=h'
  rcases List.mem_cons.1 hx with rfl|hx
  · rw [List.filter_cons_of_pos hq,List.filter_cons_of_neg (by simp [hp])]
    exact Nat.lt_succ_of_le le
  · have ih:=filter_lt h ⟨x,hx,hq,hp⟩
    cases hp':p y with
    |true=>rw [List.filter_cons_of_pos hp',List.filter_cons_of_pos (h y hp')];simpa using ih
    |false=>
     rw [List.filter_cons_of_neg (by simp [hp'])]
     cases hq':q y with
     |true=>rw [List.filter_cons_of_pos hq'];exact Nat.lt_succ_of_lt ih
     |false=>rw [List.filter_cons_of_neg (by simp [hq'])];exact ih
theorem asC {fs:List aK} {a b:List (Int×Unit)} (ha:canon fs a) (hb:canon fs b) (h:∀ x,fF a x=true→fF b x=true) (hne:b≠a):a.length<b.length:=by
 rw [ha,hb,List.length_map,List.length_map]
 refine filter_lt (p:=fun f:aK=>fF a f.1) (q:=fun f:aK=>fF b f.1) (fun f=>h f.1) (Classical.byContradiction fun hno=>hne ?_)
 rw [ha,hb]
 congr 1
 apply List.filter_congr
 intro f hf
 cases hb':fF b f.1 with
 |false=>
  cases ha':fF a f.1 with
  |false=>rfl
  |true=>rw [h _ ha'] at hb';cases hb'
 |true=>
  cases ha':fF a f.1 with
  |true=>rfl
  |false=>exact (hno ⟨f,hf,hb',ha'⟩).elim
structure qh (fs:List aK) (d:List aT) (r:List dN) (nm:Bytes→Bool) (aG:List (Int×Unit)) (k:Nat) (out:List dN):Prop where
 order:wV d out
 kept:∀ i,i<d.length→nm (nameOf d i)=false→iU out i=fG r (nameOf d i)
 later:∀ i,i<d.length→nm (nameOf d i)=true→(k:Int)<lv aG i→iU out i=[]
 done:∀ i,i<d.length→nm (nameOf d i)=true→lv aG i<k→iU out i=sel fs (dW d i) (bD out)
 aa9:∀ m,m<k→acj (Qk fs d) (due d nm) (Lm d aG) m (bD out)
 ap0:∀ i,i<d.length→nm (nameOf d i)=true→lv aG i=k→∀ x,fF (iU out i) x=true→(x,())∈sel fs (dW d i) (bD out)
 least:acj (Qk fs d) (due d nm) (Lm d aG) k (bD out)
 canon:∀ i,i<d.length→nm (nameOf d i)=true→canon fs (iU out i)
theorem auD {fs:List aK} {d:List aT} {r:List dN} {nm:Bytes→Bool} {aG:List (Int×Unit)} (h:gV d=true) (hl:lg d aG) {out:List dN} (ho:wV d out)
 (h1:∀ i,i<d.length→nm (nameOf d i)=false→iU out i=fG r (nameOf d i)) (h2:∀ i,i<d.length→nm (nameOf d i)=true→iU out i=[]):qh fs d r nm aG 0 out where
 order:=ho
 kept:=h1
 later:=fun i hi hn _=>h2 i hi hn
 done:=fun i hi _ hlt=>by have:=(hl.2.1 i hi).1;omega
 aa9:=fun m hm=>by omega
 ap0:=fun i hi hn _ x hx=>by rw [h2 i hi hn] at hx;cases hx
 least:=fun Y _ _ s hs _ x hx=>by
  obtain ⟨hn,i,hi,rfl⟩:=hs
  have hx:fF (fG out (nameOf d i)) x=true:=hx
  rw [yu h ho hi,h2 i hi hn] at hx;cases hx
 canon:=fun i hi hn=>by rw [h2 i hi hn];show []=List.map _ (List.filter _ _);rw [List.filter_eq_nil_iff.2 (fun f _=>by simp [fF])];rfl
theorem Ql {out:List dN} {i j:Nat} {x:dN} (hi:i<out.length):vW (out.set i x) j=if j=i then x else vW out j:=by
 unfold vW
 rw [List.getD_eq_getElem?_getD,List.getElem?_set]
 by_cases h:j=i
 · subst h;rw [if_pos rfl,if_pos hi,if_pos rfl];rfl
 · rw [if_neg (fun e=>h e.symm),if_neg h,← List.getD_eq_getElem?_getD]
theorem anm {d:List aT} {out:List dN} (ho:wV d out) {i:Nat} (hi:i<d.length) (l:List (Int×Unit)):wV d (out.set i (nameOf d i,l,())):=by
 refine ⟨by rw [List.length_set];exact ho.1,fun j hj=>?_⟩
 rw [Ql (by rw [ho.1];exact hi)]
 split
 · next e=>rw [e]
 · exact ho.2 j hj
theorem atQ {d:List aT} (h:gV d=true) {out:List dN} (ho:wV d out) {i:Nat} (hi:i<d.length) (l:List (Int×Unit)):
 (∀ x,bD (out.set i (nameOf d i,l,())) (nameOf d i) x=fF l x)∧∀ s,s≠nameOf d i→∀ x,bD (out.set i (nameOf d i,l,())) s x=bD out s x:=by
 have ho':=anm ho hi l
 refine ⟨fun x=>?_,fun s hs x=>?_⟩
 · refine aci ?_ x
   rw [yu h ho' hi]
   unfold iU
   rw [Ql (by rw [ho.1];exact hi),if_pos rfl]
 · refine aci ?_ x
   by_cases hd:∃ j,j<d.length∧nameOf d j=s
   · obtain ⟨j,hj,rfl⟩:=hd
     rw [yu h ho' hj,yu h ho hj]
     unfold iU
     rw [Ql (by rw [ho.1];exact hi),if_neg (fun e=>hs (by rw [e]))]
   · have hd':∀ i,i<d.length→nameOf d i≠s:=fun i hi e=>hd ⟨i,hi,e⟩
     rw [KQ ho' hd',KQ ho hd']
theorem ack {fs:List aK} {d:List aT} (h:gV d=true) {i:Nat} (hi:i<d.length) {X:BX} {x:Int}:(Qk fs d).T (nameOf d i) X x↔(x,())∈sel fs (dW d i) X:=by
 constructor
 · rintro ⟨j,hj,e,hx⟩
   have:=GY h hj hi e
   subst this;exact hx
 · exact fun hx=>⟨i,hi,rfl,hx⟩
theorem at_set {fs:List aK} {d:List aT} {r:List dN} {nm:Bytes→Bool} {aG:List (Int×Unit)} {k:Nat} {out:List dN} (h:gV d=true) (hl:lg d aG) (hf:distinct fs) (A:qh fs d r nm aG k out) {i:Nat} (hi:i<d.length) (hn:nm (nameOf d i)=true) (hk:lv aG i=k):
 qh fs d r nm aG k (out.set i (nameOf d i,sel fs (dW d i) (bD out),()))∧(sel fs (dW d i) (bD out)≠iU out i→(iU out i).length<(sel fs (dW d i) (bD out)).length)∧(sel fs (dW d i) (bD out)).length≤fs.length:=by
 have hc:=atP hf (dW d i) (bD out)
 have hol:i<out.length:=by rw [A.order.1];exact hi
 have hs:=GZ (fs:=fs) h hl nm
 have hd:due d nm (nameOf d i):=⟨hn,i,hi,rfl⟩
 have hlv:Lm d aG (nameOf d i)=k:=by rw [Bd h hi,hk];rfl
 obtain ⟨g1,g2⟩:=atQ h A.order hi (sel fs (dW d i) (bD out))
 have up:∀ s x,bD out s x=true→bD (out.set i (nameOf d i,sel fs (dW d i) (bD out),())) s x=true:=fun s x hx=>by
  by_cases e:s=nameOf d i
  · subst e
    rw [g1,HY]
    refine A.ap0 i hi hn hk x ?_
    have hx:fF (fG out (nameOf d i)) x=true:=hx
    rw [yu h A.order hi] at hx;exact hx
  · rw [g2 s e];exact hx
 have off:∀ s,¬ (due d nm s∧Lm d aG s=k)→∀ x,bD out s x=bD (out.set i (nameOf d i,sel fs (dW d i) (bD out),())) s x:=fun s hs' x=>(g2 s (fun e=>hs' (by rw [e];exact ⟨hd,hlv⟩)) x).symm
 have ids:∀ j,iU (out.set i (nameOf d i,sel fs (dW d i) (bD out),())) j=if j=i then sel fs (dW d i) (bD out) else iU out j:=fun j=>by
  unfold iU
  rw [Ql hol]
  split<;>rfl
 refine ⟨⟨anm A.order hi _,fun j hj Ua=>?_,fun j hj Ua hlj=>?_,fun j hj Ua hlj=>?_,fun m hm=>?_,fun j hj Ua hlj x hx=>?_,?_,fun j hj Ua=>?_⟩,fun hne=>?_,anl hc⟩
 · rw [ids,if_neg (fun e=>by rw [e,hn] at Ua;cases Ua)];exact A.kept j hj Ua
 · rw [ids,if_neg (fun e=>by rw [e,hk] at hlj;omega)];exact A.later j hj Ua hlj
 · rw [ids,if_neg (fun e=>by rw [e,hk] at hlj;omega),A.done j hj Ua hlj]
   refine aa5 fun b s hsd x=>off s (fun hc=>?_) x
   have hdj:due d nm (nameOf d j):=⟨Ua,j,hj,rfl⟩
   have:=hs (nameOf d j) s hdj hc.1
   have axQ:Lm d aG (nameOf d j)<k:=by rw [Bd h hj];have:=(hl.2.1 j hj).1;omega
   cases b with
   |false=>have:=this.1 ⟨j,hj,rfl,hsd⟩;omega
   |true=>have:=this.2 ⟨j,hj,rfl,hsd⟩;omega
 · exact alZ hs (fun s hs'=>off s fun hc=>hs' ⟨hc.1,by omega⟩) (A.aa9 m hm)
 · have hT:(Qk fs d).T (nameOf d j) (bD out) x:=by
    rw [ack h hj]
    rw [ids] at hx
    by_cases e:j=i
    · rw [if_pos e,HY] at hx;rw [e];exact hx
    · rw [if_neg e] at hx;exact A.ap0 j hj Ua hlj x hx
   rw [← ack h hj]
   refine (Qk fs d).mono _ _ _ (fun s _=>up s) (fun s hsd=>off s fun hc=>?_) x hT
   have:=(hs (nameOf d j) s ⟨Ua,j,hj,rfl⟩ hc.1).2 hsd
   have axQ:Lm d aG (nameOf d j)=k:=by rw [Bd h hj,hlj];rfl
   omega
 · intro Y hY hp s hsd hls x hx
   have ZA:∀ t,¬ (due d nm t∧Lm d aG t=k)→∀ x,Y t x=bD out t x:=fun t ht x=>(hY t ht x).trans (off t ht x).symm
   have base:=A.least Y ZA hp
   by_cases e:s=nameOf d i
   · subst e
     rw [g1,HY,← ack h hi] at hx
     refine hp _ hsd hls x ((Qk fs d).mono _ _ _ (fun t _ y hy=>?_) (fun t ht y=>?_) x hx)
     · by_cases ht:due d nm t∧Lm d aG t=k
       · exact base t ht.1 ht.2 y hy
       · rw [ZA t ht];exact hy
     · refine (ZA t (fun hc=>?_) y).symm
       have:=(hs (nameOf d i) t hd hc.1).2 ht
       omega
   · rw [g2 s e] at hx
     exact base s hsd hls x hx
 · rw [ids]
   split
   · exact hc
   · exact A.canon j hj Ua
 · refine asC (A.canon i hi hn) hc (fun x hx=>?_) hne
   rw [HY];exact A.ap0 i hi hn hk x hx
theorem at_next {fs:List aK} {d:List aT} {r:List dN} {nm:Bytes→Bool} {aG:List (Int×Unit)} {k:Nat} {out:List dN} (h:gV d=true) (A:qh fs d r nm aG k out) (hstill:∀ i,i<d.length→nm (nameOf d i)=true→lv aG i=k→sel fs (dW d i) (bD out)=iU out i):qh fs d r nm aG (k+1) out where
 order:=A.order
 kept:=A.kept
 later:=fun i hi hn hlt=>A.later i hi hn (by omega)
 done:=fun i hi hn hlt=>by
  by_cases e:lv aG i=k
  · exact (hstill i hi hn e).symm
  · exact A.done i hi hn (by omega)
 aa9:=fun m hm=>by
  by_cases e:m=k
  · subst e;exact A.least
  · exact A.aa9 m (by omega)
 ap0:=fun i hi hn hl x hx=>by rw [A.later i hi hn (by omega)] at hx;cases hx
 least:=fun Y _ _ s hs hls x hx=>by
  obtain ⟨hn,i,hi,rfl⟩:=hs
  rw [Bd h hi] at hls
  have hx:fF (fG out (nameOf d i)) x=true:=hx
  rw [yu h A.order hi,A.later i hi hn (by omega)] at hx;cases hx
 canon:=A.canon
theorem at_end {fs:List aK} {d:List aT} {r:List dN} {nm:Bytes→Bool} {aG:List (Int×Unit)} {k:Nat} {out:List dN} (h:gV d=true) (hl:lg d aG) (A:qh fs d r nm aG k out) (hk:∀ i,i<d.length→lv aG i<k):iD fs d r nm out where
 order:=A.order
 kept:=A.kept
 fix:=fun i hi hn=>A.done i hi hn (hk i hi)
 aG:=⟨aG,hl,{
  fix:=fun s hs x=>by
   obtain ⟨hn,i,hi,rfl⟩:=hs
   rw [ack h hi,← A.done i hi hn (hk i hi),← HY,← yu h A.order hi];rfl
  least:=fun m Y hY hp s hs hls=>by
   have hm:m<k:=by
    obtain ⟨hn,i,hi,rfl⟩:=hs
    rw [Bd h hi] at hls
    have:=hk i hi
    have:=(hl.2.1 i hi).1
    omega
   exact A.aa9 m hm Y hY hp s hs hls}⟩
def room (n:Nat) (out:List dN):Nat:=(out.map fun x=>n-x.2.1.length).sum
theorem agl {n:Nat}:∀ {out:List dN} {i:Nat} {x:dN},i<out.length→(iU out i).length<x.2.1.length→x.2.1.length≤n→room n (out.set i x)<room n out
 |[],i,x,h,_,_=>by simp at h
 |y::r,0,x,_,h1,h2=>by
  have h1:y.2.1.length<x.2.1.length:=h1
  show ((x::r).map fun x=>n-x.2.1.length).sum<((y::r).map fun x=>n-x.2.1.length).sum
  rw [List.map_cons,List.sum_cons,List.map_cons,List.sum_cons]
  omega
 |y::r,i+1,x,h,h1,h2=>by
  have ih:=agl (out:=r) (i:=i) (x:=x) (by simpa using h) h1 h2
  show ((y::r.set i x).map fun x=>n-x.2.1.length).sum<((y::r).map fun x=>n-x.2.1.length).sum
  rw [List.map_cons,List.sum_cons,List.map_cons,List.sum_cons]
  unfold room at ih
  omega
end Sp
namespace Sp
open Go
abbrev IX:=Bytes×List (Int×Unit)×List (Int×Unit)×Unit
abbrev jB:=List gU×List aK×Int×List aT×List dN×Unit
instance:DecidableEq (List (Int×Unit)):=inferInstance
instance:DecidableEq dN:=inferInstance
instance:DecidableEq (List dN):=inferInstance
instance:DecidableEq (List dN×Unit):=inferInstance
instance:DecidableEq (List aT×List dN×Unit):=inferInstance
instance:DecidableEq (Int×List aT×List dN×Unit):=inferInstance
instance:DecidableEq (List aK×Int×List aT×List dN×Unit):=inferInstance
instance ayU:DecidableEq jB:=(inferInstance:DecidableEq (List gU×List aK×Int×List aT×List dN×Unit))
def dQ (l:LS) (s:Bytes):Bool:=l.any fun x=>x.1==s
theorem gW {l:LS} {s:Bytes}:dQ l s=true↔(s,())∈l:=by
 unfold dQ
 rw [List.any_eq_true]
 exact ⟨fun ⟨y,hy,h⟩=>by rw [← beq_iff_eq.1 h];exact hy,fun h=>⟨_,h,beq_iff_eq.2 rfl⟩⟩
def bH (r:List dN):Prop:=r.length≤1000∧∀ x∈r,x.2.1.length≤1000
def aY (c:jB):bZ:=(c.1,c.2.1,c.2.2.1,())
def jW (c:jB):List aT:=c.2.2.2.1
def zQ (c:jB):List dN:=c.2.2.2.2.1
def iy (c:jB):Prop:=bG (aY c)∧aV (jW c)∧bH (zQ c)
def Ig (f:aK):Prop:=f.2.2.2.2.1.length≤500
def JS (c:jB):Prop:=∀ f∈c.2.1,Ig f
def iY (d:List aT):LS:=d.map fun x=>(x.1,())
def YR (d:List aT) (m:Int):Prop:=m≤1000∧∀ aG,aF d=true→lg d aG→∀ i,i<d.length→lv aG i≤m
open Classical in
noncomputable def iH (c:jB):Bool:=aF (jW c)&&aH (aY c)&&decide (iD c.2.1 (jW c) [] (fun _=>true) (zQ c))
def fQ (a:List dR):LS:=a.map fun x=>(x.1,())
def jv (f g:aK):List Bytes:=((f.2.2.2.2.1++g.2.2.2.2.1).map fun a=>a.1).filter fun s=>!decide (bM f.2.2.2.2.1 s=bM g.2.2.2.2.1 s)
def lI (q:List bJ):List Bytes:=(q.filter fun n=>n.1==2||(n.1==3||n.1==4)).map fun n=>n.2.2.2.1
def rQ (q:List bJ):List Bytes:=(q.filter jL).map fun n=>n.2.2.2.1
def linked (q:List bJ):Bool:=q.any fun n=>n.1==9
def asking (d:List aT) (name:Bytes):LS:=(d.filter fun x=>(rQ x.2.1).contains name).map fun x=>(x.1,())
inductive Reach (d:List aT) (P:Bytes→Prop):Bytes→Prop where
 |base {s}:P s→Reach d P s
 |step {s i}:Reach d P s→i<d.length→s∈rQ (dW d i)→Reach d P (nameOf d i)
def isSet (r:LS) (P:Bytes→Prop):Prop:=r.length≤1000∧∀ s,dQ r s=true↔P s
def reached (d:List aT) (names r:LS):Prop:=isSet r (Reach d fun s=>dQ names s=true)
def JH (d:List aT) (f g:aK) (s:Bytes):Prop:=
 ∃ i,i<d.length∧nameOf d i=s∧(f.1≠g.1∨(∃ t,t∈lI (dW d i)∧t∈jv f g)∨(linked (dW d i)=true∧f.2.2.2.1≠g.2.2.2.1))
def touched (d:List aT) (f g:aK) (r:LS):Prop:=r.length≤d.length∧∀ s,dQ r s=true↔JH d f g s
def WM (d:List aT) (f g:aK):Bytes→Prop:=Reach d (JH d f g)
open Classical in
noncomputable def alD (d:List aT) (f g:aK) (s:Bytes):Bool:=decide (WM d f g s)
def without (a b:List (Int×Unit)):List (Int×Unit):=a.filter fun x=>!fF b x.1
def wU (a:List dN) (x:dN):IX:=(x.1,without x.2.1 (fG a x.1),without (fG a x.1) x.2.1,())
def AQ (y:IX):Bool:=decide (0<y.2.1.length+y.2.2.1.length)
def Gu (a b:List dN):List IX:=(b.map (wU a)).filter AQ
def turned (c:jB) (s:bZ) (d:List aT) (nm:Bytes→Bool) (c':jB) (df:List IX) (ok:Bool):Prop:=
 ok=(aF d&&aH s)∧(ok=true→aY c'=s∧jW c'=d∧iD s.2.1 d (zQ c) nm (zQ c')∧df=Gu (zQ c) (zQ c'))∧(ok=false→c'=c∧df=[])
def updated (c:jB) (f:aK) (c':jB) (df:List IX) (ok:Bool):Prop:=
 ok=(iH c&&(aP (aY c) f).2)∧
 (ok=true→aY c'=(aP (aY c) f).1∧jW c'=jW c∧iD (aP (aY c) f).1.2.1 (jW c) (zQ c) (alD (jW c) (au (aY c) f.1).1 f) (zQ c')∧df=Gu (zQ c) (zQ c'))∧
 (ok=false→c'=c∧df=[])
def LX (c:jB):Prop:=iy c∧c.1=usual∧0<c.2.1.length∧iH c=true
def JG (fs:List aK) (d:List aT) (r:List dN) (nm:Bytes→Bool) (aG:List (Int×Unit)) (k:Nat) (abb:List dN) (i:Nat) (c:Bool) (out:List dN):Prop:=
 qh fs d r nm aG k out∧(c=true→room fs.length out<room fs.length abb)∧
  (c=false→out=abb∧∀ j,j<i→j<d.length→nm (nameOf d j)=true→lv aG j=k→sel fs (dW d j) (bD out)=iU out j)
theorem Du {fs:List aK} {d:List aT} {r:List dN} {nm:Bytes→Bool} {aG:List (Int×Unit)} {k i:Nat} {abb out:List dN} {c:Bool} (h:JG fs d r nm aG k abb i c out) (hs:nm (nameOf d i)=true→lv aG i=k→sel fs (dW d i) (bD out)=iU out i):JG fs d r nm aG k abb (i+1) c out:=
 ⟨h.1,h.2.1,fun hc=>⟨(h.2.2 hc).1,fun j hj hd hn hl=>by
   rcases Nat.lt_or_ge j i with h'|h'
   · exact (h.2.2 hc).2 j h' hd hn hl
   · have:j=i:=by omega
     subst this;exact hs hn hl⟩⟩
theorem afS {fs:List aK} {d:List aT} {r:List dN} {nm:Bytes→Bool} {aG:List (Int×Unit)} {k i:Nat} {abb out:List dN} {c:Bool} (hd:gV d=true) (hl:lg d aG) (hf:distinct fs) (h:JG fs d r nm aG k abb i c out) (hi:i<d.length) (hn:nm (nameOf d i)=true) (hk:lv aG i=k) (hne:sel fs (dW d i) (bD out)≠iU out i):
 JG fs d r nm aG k abb (i+1) true (out.set i ((vW out i).1,sel fs (dW d i) (bD out),())):=by
 obtain ⟨A,h1,h2⟩:=h
 rw [A.order.2 i hi]
 obtain ⟨g1,g2,g3⟩:=at_set hd hl hf A hi hn hk
 refine ⟨g1,fun _=>?_,fun h=>by cases h⟩
 have hr:room fs.length (out.set i (nameOf d i,sel fs (dW d i) (bD out),()))<room fs.length out:=agl (by rw [A.order.1];exact hi) (g2 hne) g3
 cases c with
 |true=>have:=h1 rfl;omega
 |false=>rw [(h2 rfl).1] at hr ⊢;exact hr
theorem QN {fs:List aK} {d:List aT} {r:List dN} {nm:Bytes→Bool} {aG:List (Int×Unit)} {k:Nat} {out:List dN} (A:qh fs d r nm aG k out) (hd:d.length≤1000) (hf:fs.length≤1000) (hr:bH r):bH out:=by
 refine ⟨by rw [A.order.1];exact hd,fun x hx=>?_⟩
 obtain ⟨i,hi,rfl⟩:=List.getElem_of_mem hx
 have hi':i<d.length:=by rw [← A.order.1];exact hi
 have e:(out[i]).2.1=iU out i:=by
  unfold iU vW
  rw [List.getD_eq_getElem?_getD,List.getElem?_eq_getElem hi];rfl
 rw [e]
 cases hn:nm (nameOf d i) with
 |true=>exact Nat.le_trans (anl (A.canon i hi' hn)) hf
 |false=>
  rw [A.kept i hi' hn]
  have:∀ l:List dN,(∀ x∈l,x.2.1.length≤1000)→(fG l (nameOf d i)).length≤1000:=by
   intro l
   induction l with
   |nil=>exact fun _=>Nat.zero_le _
   |cons x t ih=>
    intro hl
    rw [fG]
    cases x.1==nameOf d i with
    |true=>exact hl x List.mem_cons_self
    |false=>exact ih fun y hy=>hl y (List.mem_cons_of_mem _ hy)
  exact this r hr.2
def ug (r:List dN) (nm:Bytes→Bool) (x:aT):dN:=(x.1,bif nm x.1 then [] else fG r x.1,())
theorem agm {d:List aT} {r:List dN} {nm:Bytes→Bool} {i:Nat} (hi:i<d.length):vW (d.map (ug r nm)) i=ug r nm (dX d i):=by
 unfold vW dX
 rw [List.getD_eq_getElem?_getD,List.getD_eq_getElem?_getD,List.getElem?_map,List.getElem?_eq_getElem hi];rfl
theorem J3 {fs:List aK} {d:List aT} {r:List dN} {nm:Bytes→Bool} {aG:List (Int×Unit)} (hd:gV d=true) (hl:lg d aG):qh fs d r nm aG 0 (d.map (ug r nm)):=by
 refine auD hd hl ⟨by simp,fun i hi=>?_⟩ (fun i hi hn=>?_) fun i hi hn=>?_
 · rw [agm hi];rfl
 · unfold iU
   rw [agm hi]
   show (bif nm (nameOf d i) then [] else fG r (nameOf d i))=_
   rw [hn];rfl
 · unfold iU
   rw [agm hi]
   show (bif nm (nameOf d i) then [] else fG r (nameOf d i))=_
   rw [hn];rfl
theorem VA {s:bZ} (h:aH s=true):∀ (j i:Nat),i<j→j<s.2.1.length→(fileAt s.2.1 i).1<(fileAt s.2.1 j).1:=by
 intro j
 induction j with
 |zero=>intro i hi;omega
 |succ j ih=>
  intro i hi hj
  have h1:lC s (j+1)=true:=by
   unfold aH at h
   rw [Bool.and_eq_true,Bool.and_eq_true,Bool.and_eq_true] at h
   have:=h.1.1.1
   unfold jQ at this
   exact List.all_eq_true.1 this (j+1) (List.mem_range.2 hj)
  have h2:(fileAt s.2.1 j).1<(fileAt s.2.1 (j+1)).1:=by
   unfold lC at h1
   rw [Bool.and_eq_true] at h1
   have:=h1.2
   rw [decide_eq_true (Nat.succ_pos j)] at this
   simpa using this
  rcases Nat.lt_or_ge i j with h3|h3
  · exact Int.lt_trans (ih i h3 (by omega)) h2
  · have:i=j:=by omega
    subst this;exact h2
theorem CX {s:bZ} (h:aH s=true):distinct s.2.1:=by
 intro f hf g hg e
 obtain ⟨i,hi,rfl⟩:=List.getElem_of_mem hf
 obtain ⟨j,hj,rfl⟩:=List.getElem_of_mem hg
 have at_:∀ k (hk:k<s.2.1.length),fileAt s.2.1 k=s.2.1[k]:=fun k hk=>by
  unfold fileAt
  rw [List.getD_eq_getElem?_getD,List.getElem?_eq_getElem hk];rfl
 rcases Nat.lt_trichotomy i j with h1|h1|h1
 · have:=VA h j i h1 hj
   rw [at_ i hi,at_ j hj] at this;omega
 · subst h1;rfl
 · have:=VA h i j h1 hi
   rw [at_ i hi,at_ j hj] at this;omega
theorem QO {fs:List aK} {d:List aT} {r r':List dN} {nm nm':Bytes→Bool} {out:List dN} (h:iD fs d r nm out) (hn:∀ i,i<d.length→nm (nameOf d i)=nm' (nameOf d i)) (hr:∀ i,i<d.length→nm (nameOf d i)=false→fG r (nameOf d i)=fG r' (nameOf d i)):iD fs d r' nm' out:=by
 have hd:∀ s,due d nm s↔due d nm' s:=fun s=>by
  constructor
  · rintro ⟨a,i,hi,rfl⟩;exact ⟨by rw [← hn i hi];exact a,i,hi,rfl⟩
  · rintro ⟨a,i,hi,rfl⟩;exact ⟨by rw [hn i hi];exact a,i,hi,rfl⟩
 obtain ⟨aG,h1,h2⟩:=h.aG
 exact ⟨h.order,fun i hi h'=>by rw [← hn i hi] at h';rw [h.kept i hi h',hr i hi h'],fun i hi h'=>h.fix i hi (by rw [hn i hi];exact h'),aG,h1,
  fun s hs=>h2.fix s ((hd s).2 hs),fun k Y hY hp s hs=>h2.least k Y (fun t ht=>hY t fun h'=>ht ⟨(hd t).2 h'.1,h'.2⟩) (fun t ht=>hp t ((hd t).1 ht)) s ((hd s).2 hs)⟩
theorem asD {fs:List aK} {d:List aT} {r:List dN} {nm:Bytes→Bool} {aG:List (Int×Unit)} {k:Nat} (hd:gV d=true) (hl:lg d aG) (hf:distinct fs):∀ (n:Nat) (out:List dN),room fs.length out≤n→qh fs d r nm aG k out→∃ out',qh fs d r nm aG (k+1) out':=by
 intro n
 induction n using Nat.strongRecOn with
 |_ n ih=>
  intro out hn A
  by_cases hs:∀ i,i<d.length→nm (nameOf d i)=true→lv aG i=k→sel fs (dW d i) (bD out)=iU out i
  · exact ⟨out,at_next hd A hs⟩
  · obtain ⟨i,hi⟩:=Classical.not_forall.1 hs
    have h1:i<d.length:=Classical.byContradiction fun h=>hi fun h'=>(h h').elim
    have h2:nm (nameOf d i)=true:=Classical.byContradiction fun h=>hi fun _ h'=>(h h').elim
    have h3:lv aG i=k:=Classical.byContradiction fun h=>hi fun _ _ h'=>(h h').elim
    have h4:sel fs (dW d i) (bD out)≠iU out i:=fun h=>hi fun _ _ _=>h
    obtain ⟨g1,g2,g3⟩:=at_set hd hl hf A h1 h2 h3
    have hr:room fs.length (out.set i (nameOf d i,sel fs (dW d i) (bD out),()))<room fs.length out:=agl (by rw [A.order.1];exact h1) (g2 h4) g3
    exact ih _ (by omega) _ (Nat.le_refl _) g1
theorem aiF {fs:List aK} {d:List aT} (r:List dN) (nm:Bytes→Bool) {aG:List (Int×Unit)} (hd:gV d=true) (hl:lg d aG) (hf:distinct fs):∃ out,iD fs d r nm out:=by
 have:∀ k,∃ out,qh fs d r nm aG k out:=fun k=>by
  induction k with
  |zero=>exact ⟨_,J3 hd hl⟩
  |succ k ih=>
   obtain ⟨out,A⟩:=ih
   exact asD hd hl hf _ out (Nat.le_refl _) A
 obtain ⟨out,A⟩:=this (d.length+1)
 exact ⟨out,at_end hd hl A fun i hi=>by have:=(hl.2.1 i hi).2;omega⟩
end Sp
namespace Sp
open Go
theorem JM {d:List aT} {out:List dN} (ho:wV d out) {s:Bytes} (hs:¬ ∃ i,i<d.length∧nameOf d i=s) (x:Int):bD out s x=false:=by
 unfold bD
 rw [KQ ho fun i hi e=>hs ⟨i,hi,e⟩];rfl
theorem incr {fs fs':List aK} {d d':List aT} {old R E:List dN} {nm:Bytes→Bool} (hd:gV d=true) (hd':gV d'=true)
 (h1:iD fs d [] (fun _=>true) old) (h2:iD fs' d' old nm R) (h3:iD fs' d' [] (fun _=>true) E)
 (hcl:∀ i,i<d'.length→nm (nameOf d' i)=false→(∃ j,j<d.length∧nameOf d j=nameOf d' i∧dW d j=dW d' i)∧(∀ X,sel fs (dW d' i) X=sel fs' (dW d' i) X)∧∀ b,∀ s∈fC (dW d' i) b,nm s=false)
 (hsub:∀ j,j<d.length→∃ i,i<d'.length∧nameOf d' i=nameOf d j):R=E:=by
 obtain ⟨l1,hl1,e1⟩:=h1.aG
 obtain ⟨l2,hl2,e2⟩:=h2.aG
 obtain ⟨l3,hl3,e3⟩:=h3.aG
 have out1:∀ s,(¬ ∃ i,i<d'.length∧nameOf d' i=s)→∀ x,bD old s x=false:=fun s hs x=>
  JM h1.order (fun ⟨j,hj,e⟩=>by obtain ⟨i,hi,e'⟩:=hsub j hj;exact hs ⟨i,hi,e'.trans e⟩) x
 have axR:=Rn (U:=fun s=>nm s=false∧∃ i,i<d'.length∧nameOf d' i=s) e1 e3 (GZ hd hl1 _) (GZ hd' hl3 _)
  (fun s ⟨hn,i,hi,e⟩=>by subst e;obtain ⟨j,hj,e,_⟩:=(hcl i hi hn).1;exact ⟨rfl,j,hj,e⟩) (fun s ⟨_,hs⟩=>⟨rfl,hs⟩)
  (fun s ⟨hn,i,hi,e⟩ X x=>by
    subst e
    obtain ⟨⟨j,hj,e,eq⟩,hsel,_⟩:=hcl i hi hn
    rw [ack hd' hi,← e,ack hd hj,eq,hsel X])
  (fun s ⟨hn,i,hi,e⟩ t ⟨i2,hi2,e2,ht⟩=>by
    subst e
    obtain ⟨⟨j,hj,e,eq⟩,_⟩:=hcl i hi hn
    have:=GY hd' hi2 hi e2
    subst this
    exact ⟨j,hj,e,by unfold dW at eq;rw [eq];exact ht⟩)
  (fun s ⟨hn,i,hi,e⟩ t ⟨i2,hi2,e2,ht⟩=>by
    subst e
    obtain ⟨⟨j,hj,e,eq⟩,_⟩:=hcl i hi hn
    have:=GY hd' hi2 hi e2
    subst this
    exact ⟨j,hj,e,by unfold dW at eq;rw [eq];exact ht⟩)
  (fun s ⟨hn,i,hi,e⟩ t ht=>by
    subst e
    obtain ⟨⟨j,hj,e,eq⟩,_,asE⟩:=hcl i hi hn
    have hnt:nm t=false:=by
     rcases ht with ⟨j2,hj2,e2,ht⟩|⟨j2,hj2,e2,ht⟩
     · have:=GY hd hj2 hj (e2.trans e.symm)
       subst this
       exact asE false t (by rw [← eq];exact ht)
     · have:=GY hd hj2 hj (e2.trans e.symm)
       subst this
       exact asE true t (by rw [← eq];exact ht)
    by_cases hin:∃ i,i<d'.length∧nameOf d' i=t
    · exact .inl ⟨hnt,hin⟩
    · exact .inr fun x=>by rw [out1 t hin,JM h3.order hin])
 have off:∀ s,nm s=false→∀ x,bD old s x=bD E s x:=fun s hn x=>by
  by_cases hin:∃ i,i<d'.length∧nameOf d' i=s
  · exact axR s ⟨hn,hin⟩ x
  · rw [out1 s hin,JM h3.order hin]
 have axS:=Rn (U:=due d' nm) e2 e3 (GZ hd' hl2 _) (GZ hd' hl3 _) (fun _ h=>h) (fun s ⟨_,h⟩=>⟨rfl,h⟩) (fun _ _ _ _=>Iff.rfl) (fun _ _ _ h=>h) (fun _ _ _ h=>h)
  fun s _ t _=>by
   by_cases ht:due d' nm t
   · exact .inl ht
   · refine .inr fun x=>?_
     by_cases hin:∃ i,i<d'.length∧nameOf d' i=t
     · obtain ⟨i,hi,rfl⟩:=hin
       have hn:nm (nameOf d' i)=false:=by rw [Bool.eq_false_iff];exact fun hn=>ht ⟨hn,i,hi,rfl⟩
       rw [← off _ hn]
       unfold bD
       rw [yu hd' h2.order hi,h2.kept i hi hn]
     · rw [JM h2.order hin,JM h3.order hin]
 have all:∀ s x,bD R s x=bD E s x:=fun s x=>by
  by_cases hs:due d' nm s
  · exact axS s hs x
  · by_cases hin:∃ i,i<d'.length∧nameOf d' i=s
    · obtain ⟨i,hi,rfl⟩:=hin
      have hn:nm (nameOf d' i)=false:=by rw [Bool.eq_false_iff];exact fun hn=>hs ⟨hn,i,hi,rfl⟩
      rw [← off _ hn]
      unfold bD
      rw [yu hd' h2.order hi,h2.kept i hi hn]
    · rw [JM h2.order hin,JM h3.order hin]
 refine ark h2.order h3.order fun i hi=>?_
 cases hn:nm (nameOf d' i) with
 |true=>
  rw [h2.fix i hi hn,h3.fix i hi rfl]
  exact aa5 fun _ s _ x=>all s x
 |false=>
  obtain ⟨⟨j,hj,e,eq⟩,hsel,asE⟩:=hcl i hi hn
  rw [h2.kept i hi hn,← e,yu hd h1.order hj,h1.fix j hj rfl,h3.fix i hi rfl,eq,hsel]
  exact aa5 fun b s hs x=>off s (asE b s hs) x
theorem JO:∀ {l:List dR} {s:Bytes},(∀ a∈l,a.1≠s)→bM l s=(0,0,[],())
 |[],_,_=>rfl
 |x::r,s,h=>by
  rw [bM,beq_eq_false_iff_ne.2 (h x List.mem_cons_self)]
  exact JO fun a ha=>h a (List.mem_cons_of_mem _ ha)
theorem atS {f g:aK} {t:Bytes} (h:t ∉ jv f g):bM f.2.2.2.2.1 t=bM g.2.2.2.2.1 t:=by
 by_cases hm:t∈(f.2.2.2.2.1++g.2.2.2.2.1).map fun a=>a.1
 · refine Classical.byContradiction fun hne=>h ?_
   unfold jv
   rw [List.mem_filter]
   exact ⟨hm,by rw [decide_eq_false hne];rfl⟩
 · have:∀ a∈f.2.2.2.2.1++g.2.2.2.2.1,a.1≠t:=fun a ha e=>hm (List.mem_map.2 ⟨a,ha,e⟩)
   rw [JO fun a ha=>this a (List.mem_append.2 (.inl ha)),JO fun a ha=>this a (List.mem_append.2 (.inr ha))]
theorem agn {q:List bJ} {a:Nat} (h:(nodeAt q a).1≠0):nodeAt q a∈q:=by
 unfold nodeAt at h ⊢
 rw [List.getD_eq_getElem?_getD] at h ⊢
 by_cases ha:a<q.length
 · rw [List.getElem?_eq_getElem ha];exact List.getElem_mem ha
 · rw [List.getElem?_eq_none (by omega)] at h;exact (h rfl).elim
theorem atT {q:List bJ} {a:Nat} {f g:aK} {X:BX} (hid:f.1=g.1) (hat:∀ t∈lI q,bM f.2.2.2.2.1 t=bM g.2.2.2.2.1 t) (hlk:linked q=true→f.2.2.2.1=g.2.2.2.1):ja (nodeAt q a) f X=ja (nodeAt q a) g X:=by
 have at_:(nodeAt q a).1=2∨(nodeAt q a).1=3∨(nodeAt q a).1=4→bM f.2.2.2.2.1 (nodeAt q a).2.2.2.1=bM g.2.2.2.2.1 (nodeAt q a).2.2.2.1:=fun h=>by
  refine hat _ ?_
  unfold lI
  rw [List.mem_map]
  refine ⟨nodeAt q a,List.mem_filter.2 ⟨agn (by omega),?_⟩,rfl⟩
  simp only [Bool.or_eq_true,beq_iff_eq];exact h
 unfold ja
 by_cases h2:(nodeAt q a).1=2
 · rw [at_ (.inl h2),beq_iff_eq.2 h2];rfl
 rw [beq_eq_false_iff_ne.2 h2]
 by_cases h3:(nodeAt q a).1=3
 · rw [at_ (.inr (.inl h3)),beq_iff_eq.2 h3];rfl
 rw [beq_eq_false_iff_ne.2 h3]
 by_cases h4:(nodeAt q a).1=4
 · rw [at_ (.inr (.inr h4)),beq_iff_eq.2 h4];rfl
 rw [beq_eq_false_iff_ne.2 h4]
 by_cases h8:(nodeAt q a).1=8
 · rw [beq_iff_eq.2 h8,hid]
   show (bif false then _ else _)=_
   rfl
 rw [beq_eq_false_iff_ne.2 h8]
 by_cases h9:(nodeAt q a).1=9
 · have:linked q=true:=by
    unfold linked
    exact List.any_eq_true.2 ⟨_,agn (by omega),beq_iff_eq.2 h9⟩
   rw [beq_iff_eq.2 h9,hlk this];rfl
 rw [beq_eq_false_iff_ne.2 h9];rfl
theorem auE {q:List bJ} {f g:aK} {X:BX} (hid:f.1=g.1) (hat:∀ t∈lI q,bM f.2.2.2.2.1 t=bM g.2.2.2.2.1 t) (hlk:linked q=true→f.2.2.2.1=g.2.2.2.1):∀ a,val q f X a=val q g X a:=by
 intro a
 induction a using Nat.strongRecOn with
 |_ a ih=>
  rw [KG q f X a,KG q g X a]
  split
  · split
    · next h=>rw [ih _ h]
    · rfl
  · split
    · split
      · next h=>rw [ih _ h.1,ih _ h.2]
      · rfl
    · split
      · split
        · next h=>rw [ih _ h.1,ih _ h.2]
        · rfl
      · exact atT hid hat hlk
theorem atU {q:List bJ} {b:Bool} {s:Bytes} (h:s∈fC q b):s∈rQ q:=by
 unfold fC at h
 rw [List.mem_filterMap] at h
 obtain ⟨i,hi,e⟩:=h
 cases hc:jL (nodeAt q i)&&((negated q).getD i (false,())).1==b with
 |false=>rw [hc] at e;cases e
 |true=>
  rw [hc] at e
  rw [Bool.and_eq_true] at hc
  have e:(nodeAt q i).2.2.2.1=s:=Option.some.inj e
  unfold rQ
  rw [List.mem_map]
  refine ⟨nodeAt q i,List.mem_filter.2 ⟨agn fun h0=>?_,hc.1⟩,e⟩
  have:=hc.1
  unfold jL at this
  rw [h0] at this
  cases this
theorem avC {fs:List aK} {q:List bJ} {X:BX} {n:Nat} {g:aK} (hn:n<fs.length) (hid:(fileAt fs n).1=g.1) (hm:iW q (fileAt fs n) X=iW q g X):sel (fs.set n g) q X=sel fs q X:=by
 have form:∀ l:List aK,sel l q X=(l.map fun f=>(iW q f X,f.1)).filterMap fun p=>bif p.1 then some (p.2,()) else none:=fun l=>by
  unfold sel
  induction l with
  |nil=>rfl
  |cons f r ih=>
   rw [List.map_cons,List.filterMap_cons]
   cases h:iW q f X with
   |true=>rw [List.filter_cons_of_pos (p:=fun f=>iW q f X) h,List.map_cons,ih];rfl
   |false=>rw [List.filter_cons_of_neg (p:=fun f=>iW q f X) (by simp [h]),ih];rfl
 rw [form,form,List.map_set]
 congr 1
 have hat:fileAt fs n=fs[n]:=by unfold fileAt;rw [List.getD_eq_getElem?_getD,List.getElem?_eq_getElem hn];rfl
 rw [hat] at hid hm
 have:(iW q g X,g.1)=(fs.map fun f=>(iW q f X,f.1))[n]'(by rw [List.length_map];exact hn):=by rw [List.getElem_map,hm,hid]
 rw [this,List.set_getElem_self]
theorem auy {fs:List aK} {d:List aT} {n:Nat} {g:aK} {old R E:List dN} (hd:gV d=true) (hn:n<fs.length) (hid:(fileAt fs n).1=g.1)
 (h1:iD fs d [] (fun _=>true) old) (h2:iD (fs.set n g) d old (alD d (fileAt fs n) g) R) (h3:iD (fs.set n g) d [] (fun _=>true) E):R=E:=by
 have auF:∀ s,alD d (fileAt fs n) g s=true↔WM d (fileAt fs n) g s:=fun s=>@decide_eq_true_iff _ (Classical.propDecidable _)
 refine incr hd hd h1 h2 h3 (fun i hi hna=>⟨⟨i,hi,rfl,rfl⟩,fun X=>?_,fun b s hs=>?_⟩) fun j hj=>⟨j,hj,rfl⟩
 · have hna:¬ WM d (fileAt fs n) g (nameOf d i):=fun h=>by rw [(auF _).2 h] at hna;cases hna
   have hnt:¬ JH d (fileAt fs n) g (nameOf d i):=fun h=>hna (.base h)
   refine (avC hn hid ?_).symm
   unfold iW
   rw [auE hid (fun t ht=>?_) fun hl=>?_]
   · exact atS fun hc=>hnt ⟨i,hi,rfl, .inr (.inl ⟨t,ht,hc⟩)⟩
   · exact Classical.byContradiction fun hne=>hnt ⟨i,hi,rfl, .inr (.inr ⟨hl,hne⟩)⟩
 · rw [Bool.eq_false_iff]
   intro hs'
   have:=(auF s).1 hs'
   have h':WM d (fileAt fs n) g (nameOf d i):= .step this hi (atU hs)
   rw [(auF _).2 h'] at hna;cases hna
end Sp
namespace Sp
open Go
def axT (as:List dR):Prop:=as.Pairwise fun x y=>Op.bytesLess x.1 y.1=true
theorem ap1 {α:Type} {R:α→α→Prop} (ht:∀ a b c,R a b→R b c→R a c) (d:α):∀ (l:List α),(∀ i,i+1<l.length→R (l.getD i d) (l.getD (i+1) d))→l.Pairwise R
 |[],_=>List.Pairwise.nil
 |[x],_=>List.pairwise_singleton _ _
 |x::y::r,h=>by
  have ih:=ap1 ht d (y::r) fun i hi=>h (i+1) (by simpa using hi)
  have h0:R x y:=h 0 (by simp)
  refine List.pairwise_cons.2 ⟨fun z hz=>?_,ih⟩
  rcases List.mem_cons.1 hz with rfl|hz
  · exact h0
  · exact ht _ _ _ h0 ((List.pairwise_cons.1 ih).1 z hz)
theorem aqD {fs:List gU} {as:List dR}:lH fs as=true↔(∀ a∈as,jD fs a.1 a.2.1 a.2.2.1 a.2.2.2.1=true)∧axT as:=by
 have at_:∀ i (hi:i<as.length),bT as i=as[i]:=fun i hi=>by unfold bT;rw [List.getD_eq_getElem?_getD,List.getElem?_eq_getElem hi];rfl
 unfold lH
 rw [show (jQ as.length (kL fs as)=true)↔∀ i,i<as.length→kL fs as i=true from by
  unfold jQ
  rw [List.all_eq_true]
  exact ⟨fun h i hi=>h i (List.mem_range.2 hi),fun h i hi=>h i (List.mem_range.1 hi)⟩]
 have one:∀ i,kL fs as i=true↔jD fs (bT as i).1 (bT as i).2.1 (bT as i).2.2.1 (bT as i).2.2.2.1=true∧(0<i→Op.bytesLess (bT as (i-1)).1 (bT as i).1=true):=fun i=>by
  unfold kL
  rw [Bool.and_eq_true]
  refine and_congr_right fun _=>?_
  by_cases h0:0<i
  · rw [decide_eq_true h0];simp [h0]
  · rw [decide_eq_false h0];simp [h0]
 constructor
 · intro h
   refine ⟨fun a ha=>?_,?_⟩
   · obtain ⟨i,hi,rfl⟩:=List.getElem_of_mem ha
     have:=((one i).1 (h i hi)).1
     rw [at_ i hi] at this;exact this
   · refine ap1 (R:=fun x y:dR=>Op.bytesLess x.1 y.1=true) (fun a b c h1 h2=>I5 _ _ _ h1 h2) ([],0,0,[],()) as fun i hi=>?_
     exact ((one (i+1)).1 (h (i+1) hi)).2 (by omega)
 · rintro ⟨h1,h2⟩ i hi
   refine (one i).2 ⟨?_,fun h0=>?_⟩
   · rw [at_ i hi];exact h1 _ (List.getElem_mem hi)
   · rw [at_ i hi,at_ (i-1) (by omega)]
     exact List.pairwise_iff_getElem.1 h2 (i-1) i (by omega) hi (by omega)
theorem aa1 {α:Type} {p:α→Bool}:∀ {l:List α} {x:α},x∈l.takeWhile p→p x=true∧x∈l
 |[],_,h=>by cases h
 |y::r,x,h=>by
  rw [List.takeWhile_cons] at h
  split at h
  · next hp=>
    rcases List.mem_cons.1 h with rfl|h
    · exact ⟨hp,List.mem_cons_self⟩
    · exact ⟨(aa1 h).1,List.mem_cons_of_mem _ (aa1 h).2⟩
  · cases h
theorem ap2 {α:Type} [BEq α] [LawfulBEq α]:∀ (a b:List α),a.Nodup→(∀ x∈a,x∈b)→a.length≤b.length
 |[],_,_,_=>Nat.zero_le _
 |x::r,b,hn,h=>by
  rw [List.nodup_cons] at hn
  have hx:=h x List.mem_cons_self
  have ih:=ap2 r (b.erase x) hn.2 fun y hy=>by
   have hne:y≠x:=fun e=>by subst e;exact hn.1 hy
   rw [List.mem_erase_of_ne hne]
   exact h y (List.mem_cons_of_mem _ hy)
  rw [List.length_erase_of_mem hx] at ih
  have:0<b.length:=List.length_pos_of_mem hx
  rw [List.length_cons];omega
theorem ajs:∀ {fs:List gU} {s:Bytes},kindOf fs s≠0→s∈fs.map fun f=>f.1
 |[],_,h=>(h rfl).elim
 |f::r,s,h=>by
  rw [kindOf] at h
  by_cases e:f.1=s
  · rw [List.map_cons,e];exact List.mem_cons_self
  · rw [decide_eq_false e] at h
    rw [List.map_cons]
    exact List.mem_cons_of_mem _ (ajs h)
theorem auz {fs:List gU} {as:List dR} (h:lH fs as=true):as.length≤fs.length:=by
 obtain ⟨h1,h2⟩:=aqD.1 h
 have:=ap2 (as.map fun a=>a.1) (fs.map fun f=>f.1) ?_ fun s hs=>?_
 · rw [List.length_map,List.length_map] at this;exact this
 · unfold List.Nodup
   rw [List.pairwise_map]
   exact h2.imp fun {a b} hab=>acg hab
 · obtain ⟨a,ha,rfl⟩:=List.mem_map.1 hs
   have hm:=h1 a ha
   unfold jD at hm
   simp only [Bool.and_eq_true,decide_eq_true_eq,Bool.not_eq_true',decide_eq_false_iff_not] at hm
   exact ajs (by rw [← hm.2];exact hm.1.2)
end Sp
namespace Sp
open Go
theorem au9 {α:Type} (p:α→Bool):∀ l:List α,l.dropWhile p=l.drop (l.takeWhile p).length
 |[]=>rfl
 |x::r=>by
  rw [List.dropWhile_cons,List.takeWhile_cons]
  cases p x with
  |true=>simp only [if_true,List.length_cons,List.drop_succ_cons];exact au9 p r
  |false=>rfl
theorem au8 {α:Type} (p:α→Bool):∀ l:List α,l.takeWhile p=l.take (l.takeWhile p).length
 |[]=>rfl
 |x::r=>by
  rw [List.takeWhile_cons]
  cases p x with
  |true=>simp only [if_true,List.length_cons,List.take_succ_cons];exact congrArg (x::·) (au8 p r)
  |false=>rfl
theorem ang {α:Type} (p:α→Bool) (d:α):∀ (l:List α) (k:Nat),k≤l.length→(∀ i,i<k→p (l.getD i d)=true)→(k<l.length→p (l.getD k d)=false)→(l.takeWhile p).length=k
 |[],0,_,_,_=>rfl
 |[],_+1,h,_,_=>by simp at h
 |x::r,0,_,_,h=>by
  have:p x=false:=h (by simp)
  rw [List.takeWhile_cons,this];rfl
 |x::r,k+1,hk,h1,h2=>by
  have:p x=true:=h1 0 (by omega)
  rw [List.takeWhile_cons,this]
  simp only [if_true,List.length_cons]
  rw [ang p d r k (by simpa using hk) (fun i hi=>h1 (i+1) (by omega)) fun h=>h2 (by simpa using h)]
def became (c:jB) (s:bZ) (d:List aT) (ok0:Bool) (c':jB) (df:List IX) (ok:Bool):Prop:=
 ok=ok0∧(ok=true→aY c'=s∧jW c'=d∧iH c'=true∧df=Gu (zQ c) (zQ c'))∧(ok=false→c'=c∧df=[])
def ast (c:jB):Prop:=∀ f∈c.2.1,f.2.2.2.2.1.length≤400
theorem apO {c:jB} (h:ast c):JS c:=fun f hf=>Nat.le_trans (h f hf) (by decide)
def uF (c:jB):Prop:=iy c∧ast c∧(jW c).length≤10
def named (f:aK) (w:Bytes):aK:=(f.1,f.2.1,f.2.2.1,f.2.2.2.1,fH f.2.2.2.2.1 [110] 2 0 w,())
def tC (f:aK) (n:Int):aK:=(f.1,f.2.1,f.2.2.1,n,f.2.2.2.2.1,())
def gJ (c:jB) (u id:Int):Bool:=(au (aY c) id).2&&mM (au (aY c) id).1 u
def tZ (c:jB) (u n:Int):Bool:=n==0||((au (aY c) n).2&&xB (au (aY c) n).1 u)
def changed (c:jB) (g:aK) (b:Bool) (c':jB) (ok:Bool):Prop:=
 ok=(b&&(iH c&&(aP (aY c) g).2))∧(ok=true→aY c'=(aP (aY c) g).1∧jW c'=jW c∧iH c'=true)∧(ok=false→c'=c)
def baseName (f:aK):Bytes:=bif (bM f.2.2.2.2.1 [110]).1==2 then (bM f.2.2.2.2.1 [110]).2.2.1 else [102,105,108,101]
end Sp
namespace Go.Fw
open Go
theorem apA {α:Type} {l:List α} {lo:Nat} {news:List α} (h:lo+news.length≤l.length):(fD l lo news).length=l.length:=by
 unfold fD
 simp only [List.length_append,List.length_take,List.length_drop]
 omega
theorem am9 {α:Type} {l:List α} {lo k:Nat} {news:List α} (hk:k≤lo) (h:lo≤l.length):(fD l lo news).take k=l.take k:=by
 unfold fD
 rw [List.append_assoc,List.take_append_of_le_length (by rw [List.length_take];omega),List.take_take,Nat.min_eq_left hk]
theorem eqL {α β:Type} (e:α→α→Bool) (he:∀ x y,e x y=false↔x=y) (d:α) (a b:List α) [Decidable (a=b)] (t:β) (hlen:a.length≤maxLen) {K:Bool×Unit→Prop} (hK:K (decide (a=b),())):
 bif ((a.length:Int)) !=(b.length:Int) then K (false,()) else
 ∃ (I:(Int×Unit)×Unit→Prop),∃ (μ:(Int×Unit)×Unit→Nat),I (((0:Int),()),())∧∀ (y:(Int×Unit)×Unit),I y→
   bif decide (y.fst.fst<(a.length:Int)) then
    ((0:Int)≤y.fst.fst∧y.fst.fst<(a.length:Int))∧((0:Int)≤y.fst.fst∧y.fst.fst<(b.length:Int))∧
      (bif e (a.getD (Int.toNat y.fst.fst) d) (b.getD (Int.toNat y.fst.fst) d) then K (false,())
      else t=t∧I ((IntKind.i64.wrap (y.fst.fst+(1:Int)),()),())∧μ ((IntKind.i64.wrap (y.fst.fst+(1:Int)),()),())<μ y)
   else K (true,()):=by
 rw [maxLen_eq] at hlen
 refine af (fun h=>?_) fun h=>?_
 · have h:(a.length:Int)≠b.length:=by simpa using h
   rw [decide_eq_false fun e=>h (by rw [e])] at hK
   exact hK
 · have h:(a.length:Int)=b.length:=by simpa using h
   exact Tz e he d a b t hlen (by omega) (fun e=>by rw [decide_eq_false e] at hK;exact hK) fun e=>by rw [decide_eq_true e] at hK;exact hK
theorem av5 {α β:Type} (e:α→α→Bool) (he:∀ x y,e x y=false↔x=y) (d:α) (a b:List α) [Decidable (a=b)] (t:β) (hlen:a.length≤maxLen) {K:Bool×Unit→Prop} (hK:K (decide (a=b),())):
 bif ((a.length:Int)) !=(b.length:Int) then K (false,()) else
 ∃ (I:(Int×Unit)×Unit→Prop),∃ (μ:(Int×Unit)×Unit→Nat),I (((0:Int),()),())∧∀ (y:(Int×Unit)×Unit),I y→
   bif decide (y.fst.fst<(a.length:Int)) then
    ((0:Int)≤y.fst.fst∧y.fst.fst<(a.length:Int))∧((0:Int)≤y.fst.fst∧y.fst.fst<(b.length:Int))∧True∧
      (bif e (a.getD (Int.toNat y.fst.fst) d) (b.getD (Int.toNat y.fst.fst) d) then K (false,())
      else t=t∧I ((IntKind.i64.wrap (y.fst.fst+(1:Int)),()),())∧μ ((IntKind.i64.wrap (y.fst.fst+(1:Int)),()),())<μ y)
   else K (true,()):=by
 rw [maxLen_eq] at hlen
 refine af (fun h=>?_) fun h=>?_
 · have h:(a.length:Int)≠b.length:=by simpa using h
   rw [decide_eq_false fun e=>h (by rw [e])] at hK
   exact hK
 · have h:(a.length:Int)=b.length:=by simpa using h
   exact afC e he d a b t hlen (by omega) (fun e=>by rw [decide_eq_false e] at hK;exact hK) fun e=>by rw [decide_eq_true e] at hK;exact hK
theorem TP {α β:Type} (p:α→Bool) (d:α) (a:List α) (t:β) (hlen:a.length≤maxLen) {K:Int×Unit→Prop} (hK:K (Sp.findAt p a,())):
 ∃ (I:(Int×Unit)×Unit→Prop),∃ (μ:(Int×Unit)×Unit→Nat),I (((0:Int),()),())∧∀ (y:(Int×Unit)×Unit),I y→
   bif decide (y.fst.fst<(a.length:Int)) then
    ((0:Int)≤y.fst.fst∧y.fst.fst<(a.length:Int))∧True∧
      (bif p (a.getD (Int.toNat y.fst.fst) d) then K (y.fst.fst,())
      else t=t∧I ((IntKind.i64.wrap (y.fst.fst+(1:Int)),()),())∧μ ((IntKind.i64.wrap (y.fst.fst+(1:Int)),()),())<μ y)
   else K ((-1:Int),()):=by
 rw [maxLen_eq] at hlen
 refine jd a.length hlen (fun n=>∀ i,i<n→p (a.getD i d)=false) (fun i hi=>by omega) (fun I μ n hn hJ next=>?_) fun I μ hJ=>?_
 · dsimp only
   refine dh (by omega) ⟨⟨by omega,by omega⟩,trivial,af (fun h=>?_) fun h=>⟨rfl,next fun i hi=>?_⟩⟩
   · rw [Sp.ank hn hJ h] at hK;exact hK
   · rcases Nat.lt_or_ge i n with h'|h'
     · exact hJ i h'
     · have:i=n:=by omega
       rw [this];exact h
 · dsimp only
   refine dm (by omega) ?_
   rw [Sp.aeG hJ] at hK;exact hK
theorem aty {α β:Type} (p:α→Bool) (d:α) (a:List α) (t:β) (hlen:a.length≤maxLen) {K:Int×Unit→Prop} (hK:K (Sp.findAt p a,())):
 ∃ (I:(Int×Unit)×Unit→Prop),∃ (μ:(Int×Unit)×Unit→Nat),I (((0:Int),()),())∧∀ (y:(Int×Unit)×Unit),I y→
   bif decide (y.fst.fst<(a.length:Int)) then
    ((0:Int)≤y.fst.fst∧y.fst.fst<(a.length:Int))∧
      (bif p (a.getD (Int.toNat y.fst.fst) d) then K (y.fst.fst,())
      else t=t∧I ((IntKind.i64.wrap (y.fst.fst+(1:Int)),()),())∧μ ((IntKind.i64.wrap (y.fst.fst+(1:Int)),()),())<μ y)
   else K ((-1:Int),()):=by
 obtain ⟨I,μ,h0,h1⟩:=TP p d a t hlen hK
 refine ⟨I,μ,h0,fun y hy=>?_⟩
 have:=h1 y hy
 revert this
 cases decide (y.fst.fst<(a.length:Int)) with
 |true=>exact fun h=>⟨h.1,h.2.2⟩
 |false=>exact id
theorem aq9 {α β:Type} (p:α→Bool) (d:α) (s:List α) (t:β) (hlen:s.length≤4611686018427387903) {K:(List α×Unit)×Unit→Prop} (hK:K ((s.filter fun x=>!p x,()),())):
 bif Sp.findAt p s==(-1:Int) then K ((s,()),()) else
 ∃ (I:(Int×Int×Unit)×List α×Unit→Prop),∃ (μ:(Int×Int×Unit)×List α×Unit→Nat),
   I ((Sp.findAt p s,IntKind.i64.wrap (Sp.findAt p s+(1:Int)),()),s,())∧∀ (y:(Int×Int×Unit)×List α×Unit),I y→
     bif decide (y.fst.snd.fst<(↑(List.length y.snd.fst):Int)) then
      ((0:Int)≤y.fst.snd.fst∧y.fst.snd.fst<(↑(List.length y.snd.fst):Int))∧Int.toNat y.fst.snd.fst<List.length y.snd.fst∧True∧
        (bif !p (List.getD y.snd.fst (Int.toNat y.fst.snd.fst) d) then
          ((0:Int)≤y.fst.fst∧y.fst.fst<(↑(List.length y.snd.fst):Int))∧Int.toNat y.fst.fst<List.length y.snd.fst∧t=t∧
            I ((IntKind.i64.wrap (y.fst.fst+(1:Int)),IntKind.i64.wrap (y.fst.snd.fst+(1:Int)),()),List.set y.snd.fst (Int.toNat y.fst.fst) (List.getD y.snd.fst (Int.toNat y.fst.snd.fst) d),())∧
            μ ((IntKind.i64.wrap (y.fst.fst+(1:Int)),IntKind.i64.wrap (y.fst.snd.fst+(1:Int)),()),List.set y.snd.fst (Int.toNat y.fst.fst) (List.getD y.snd.fst (Int.toNat y.fst.snd.fst) d),())<μ y
        else t=t∧I ((y.fst.fst,IntKind.i64.wrap (y.fst.snd.fst+(1:Int)),()),y.snd.fst,())∧μ ((y.fst.fst,IntKind.i64.wrap (y.fst.snd.fst+(1:Int)),()),y.snd.fst,())<μ y)
     else
      (0:Nat)<List.length y.snd.fst∧((0:Int)≤y.fst.fst∧y.fst.fst≤(↑(List.length y.snd.fst):Int))∧
        (0:Nat)+Int.toNat y.fst.fst+(List.length y.snd.fst-Int.toNat y.fst.fst)≤List.length y.snd.fst∧
          ((0:Nat)<(fD y.snd.fst ((0:Nat)+Int.toNat y.fst.fst) (List.replicate (List.length y.snd.fst-Int.toNat y.fst.fst) d)).length∧
            List.length y.snd.fst≤(fD y.snd.fst ((0:Nat)+Int.toNat y.fst.fst) (List.replicate (List.length y.snd.fst-Int.toNat y.fst.fst) d)).length)∧
            ((0:Int)≤y.fst.fst∧y.fst.fst≤(↑(List.take (List.length y.snd.fst) (fD y.snd.fst ((0:Nat)+Int.toNat y.fst.fst) (List.replicate (List.length y.snd.fst-Int.toNat y.fst.fst) d))).length:Int))∧
              K ((List.take (Int.toNat y.fst.fst) (List.take (List.length y.snd.fst) (fD y.snd.fst ((0:Nat)+Int.toNat y.fst.fst) (List.replicate (List.length y.snd.fst-Int.toNat y.fst.fst) d))),()),()):=by
 rcases Sp.OM p d s with ⟨e,hno⟩|⟨n,hn,e,he,hne⟩
 · rw [e]
   have:s.filter (fun x=>!p x)=s:=List.filter_eq_self.2 fun x hx=>by
    obtain ⟨i,hi,rfl⟩:=List.getElem_of_mem hx
    have:=hno i hi
    rw [List.getD_eq_getElem?_getD,List.getElem?_eq_getElem hi] at this
    exact congrArg Bool.not this
   rw [this] at hK
   exact hK
 · rw [e]
   have e1:(((n:Nat):Int)==-1)=false:=by rw [beq_eq_false_iff_ne];omega
   rw [e1]
   have w1:∀ k:Nat,k≤4611686018427387903→IntKind.i64.wrap ((k:Int)+1)=((k+1:Nat):Int):=fun k hk=>gu _ (by omega)
   rw [w1 n (by omega)]
   refine ⟨fun y=>∃ (i j:Nat) (l:List α),y=(((i:Int),(j:Int),()),l,())∧i<j∧j≤s.length∧l.length=s.length∧l.take i=(s.take j).filter (fun x=>!p x)∧∀ t,j≤t→l.getD t d=s.getD t d,
    fun y=>((s.length:Int)-y.1.2.1).toNat,⟨n,n+1,s,rfl,by omega,by omega,rfl,?_,fun _ _=>rfl⟩,?_⟩
   · rw [Sp.take_succ' s n d hn,List.filter_append,List.filter_cons]
     have h1:(!p (s.getD n d))=false:=congrArg Bool.not he
     rw [h1]
     have h2:(s.take n).filter (fun x=>!p x)=s.take n:=List.filter_eq_self.2 fun x hx=>by
      obtain ⟨i,hi,rfl⟩:=List.getElem_of_mem hx
      have hi':i<n:=by rw [List.length_take] at hi;omega
      have:=hne i hi'
      rw [List.getD_eq_getElem?_getD,List.getElem?_eq_getElem (by omega)] at this
      rw [List.getElem_take]
      exact congrArg Bool.not this
     rw [h2];simp
   · rintro y ⟨i,j,l,rfl,hij,hj,hl,ht,hs⟩
     dsimp only
     refine af (fun h=>?_) fun h=>?_
     · have h:j<s.length:=by have h:=of_decide_eq_true h;omega
       have hsj:=hs j (Nat.le_refl _)
       rw [Int.toNat_natCast,Int.toNat_natCast,hsj,w1 i (by omega),w1 j (by omega)]
       refine ⟨⟨by omega,by omega⟩,by omega,trivial,af (fun h2=>⟨⟨by omega,by omega⟩,by omega,rfl,⟨i+1,j+1,_,rfl,by omega,by omega,by rw [List.length_set];exact hl,?_,fun t ht=>?_⟩,by omega⟩) fun h2=>⟨rfl,⟨i,j+1,l,rfl,by omega,by omega,hl,?_,fun t ht=>hs t (by omega)⟩,by omega⟩⟩
       · rw [Sp.take_succ' _ i d (by rw [List.length_set];omega),Sp.take_succ' s j d h,List.filter_append,List.filter_cons,List.take_set_of_le (Nat.le_refl _),ht]
         have h3:(!p (s.getD j d))=true:=h2
         rw [h3,List.getD_eq_getElem?_getD,List.getElem?_set,if_pos rfl,if_pos (by omega)]
         rfl
       · rw [List.getD_eq_getElem?_getD,List.getElem?_set,if_neg (by omega),← List.getD_eq_getElem?_getD]
         exact hs t (by omega)
       · rw [Sp.take_succ' s j d h,List.filter_append,List.filter_cons,ht]
         have h3:(!p (s.getD j d))=false:=h2
         rw [h3];simp
     · have h:j=s.length:=by have h:=of_decide_eq_false h;omega
       rw [Int.toNat_natCast,Nat.zero_add]
       have l1:(fD l i (List.replicate (l.length-i) d)).length=l.length:=apA (by rw [List.length_replicate];omega)
       refine ⟨by omega,⟨by omega,by omega⟩,by omega,⟨by rw [l1];omega,by rw [l1];omega⟩,⟨by omega,by rw [List.length_take,l1];omega⟩,?_⟩
       rw [List.take_take,Nat.min_eq_left (by omega),am9 (Nat.le_refl _) (by omega),ht,h,List.take_length]
       exact hK
end Go.Fw
namespace Go.Fw
open Go
theorem auu {α β:Type} (p:α→Bool) (d:α) (a:List α) (t:β) (hlen:a.length≤maxLen) {K:Bool×Unit→Prop} (hK:K (a.any p,())):
 ∃ (I:(Int×Unit)×Unit→Prop),∃ (μ:(Int×Unit)×Unit→Nat),I (((0:Int),()),())∧∀ (y:(Int×Unit)×Unit),I y→
   bif decide (y.fst.fst<(a.length:Int)) then
    ((0:Int)≤y.fst.fst∧y.fst.fst<(a.length:Int))∧
      (bif p (a.getD (Int.toNat y.fst.fst) d) then K (true,())
      else t=t∧I ((IntKind.i64.wrap (y.fst.fst+(1:Int)),()),())∧μ ((IntKind.i64.wrap (y.fst.fst+(1:Int)),()),())<μ y)
   else K (false,()):=by
 rw [maxLen_eq] at hlen
 refine jd a.length hlen (fun n=>∀ i,i<n→p (a.getD i d)=false) (fun i hi=>by omega) (fun I μ n hn hJ next=>?_) fun I μ hJ=>?_
 · dsimp only
   refine dh (by omega) ⟨⟨by omega,by omega⟩,af (fun h=>?_) fun h=>⟨rfl,next fun i hi=>?_⟩⟩
   · have:a.any p=true:=List.any_eq_true.2 ⟨a.getD n d,by rw [List.getD_eq_getElem?_getD,List.getElem?_eq_getElem hn];exact List.getElem_mem hn,h⟩
     rw [this] at hK;exact hK
   · rcases Nat.lt_or_ge i n with h'|h'
     · exact hJ i h'
     · have:i=n:=by omega
       rw [this];exact h
 · dsimp only
   refine dm (by omega) ?_
   have:a.any p=false:=by
    rw [List.any_eq_false]
    intro x hx
    obtain ⟨i,hi,rfl⟩:=List.getElem_of_mem hx
    have:=hJ i hi
    rw [List.getD_eq_getElem?_getD,List.getElem?_eq_getElem hi] at this
    simpa using this
   rw [this] at hK;exact hK
theorem Vf {α:Type} (p:α→Bool) (s:List α):decide (Sp.findAt p s≥0)=s.any p:=by
 cases hs:s with
 |nil=>rfl
 |cons d r=>
  rw [← hs]
  rcases Sp.OM p d s with ⟨e,h⟩|⟨n,hn,e,h1,h2⟩
  · rw [e,decide_eq_false (by omega)]
    symm
    rw [List.any_eq_false]
    intro x hx
    obtain ⟨i,hi,rfl⟩:=List.getElem_of_mem hx
    have:=h i hi
    rw [List.getD_eq_getElem?_getD,List.getElem?_eq_getElem hi] at this
    simpa using this
  · rw [e,decide_eq_true (by omega)]
    symm
    exact List.any_eq_true.2 ⟨s.getD n d,by rw [List.getD_eq_getElem?_getD,List.getElem?_eq_getElem hn];exact List.getElem_mem hn,h1⟩
theorem jO {α:Type} (p:α→Bool) (d:α) (l:List α) {n:Nat} (h:n<l.length):(l.take (n+1)).filter p=(l.take n).filter p++(bif p (l.getD n d) then [l.getD n d] else []):=by
 rw [Sp.take_succ' l n d h,List.filter_append,List.filter_cons]
 cases p (l.getD n d)<;>rfl
theorem afN {α β δ:Type} (p:α→Bool) (g:α→β) (d:α) (a:List α) (t:δ) {A:Int→Prop} (hA:∀ n:Nat,n<a.length→A n) (hlen:a.length≤4000000) {K:List β×Unit→Prop} (hK:K ((a.filter p).map g,())):
 ∃ (I:(Unit×Int×Unit)×List β×Unit→Prop),∃ (μ:(Unit×Int×Unit)×List β×Unit→Nat),I (((),(0:Int),()),[],())∧∀ (y:(Unit×Int×Unit)×List β×Unit),I y→
   bif decide (y.1.2.1<(a.length:Int)) then
    ((0:Int)≤y.1.2.1∧y.1.2.1<(a.length:Int))∧A y.1.2.1∧
      (bif p (a.getD (Int.toNat y.1.2.1) d) then List.length y.2.1+1≤big∧t=t∧I (((),IntKind.i64.wrap (y.1.2.1+(1:Int)),()),y.2.1++[g (a.getD (Int.toNat y.1.2.1) d)],())∧μ (((),IntKind.i64.wrap (y.1.2.1+(1:Int)),()),y.2.1++[g (a.getD (Int.toNat y.1.2.1) d)],())<μ y
      else t=t∧I (((),IntKind.i64.wrap (y.1.2.1+(1:Int)),()),y.2)∧μ (((),IntKind.i64.wrap (y.1.2.1+(1:Int)),()),y.2)<μ y)
   else K y.2:=by
 refine dM (fun i (x:List β)=>(((),i,()),x,())) (fun y=>y.1.2.1) (fun _ _=>rfl) a.length (by omega) (fun n l=>l=((a.take n).filter p).map g) (by simp) (fun I μ n l hn hJ next=>?_) fun I μ l hJ=>?_
 · subst hJ
   have hl:(((a.take n).filter p).map g).length≤n:=by
    have:=List.length_filter_le p (a.take n)
    rw [List.length_map];rw [List.length_take] at this;omega
   have step:=jO p d a hn
   dsimp only
   refine dh (by omega) ⟨⟨by omega,by omega⟩,hA n hn,af (fun h=>⟨by rw [bU];omega,rfl,next _ ?_⟩) fun h=>⟨rfl,next _ ?_⟩⟩
   · have h:p (a.getD n d)=true:=h
     rw [step,h,List.map_append];rfl
   · have h:p (a.getD n d)=false:=h
     rw [step,h,List.map_append];simp
 · subst hJ
   dsimp only
   refine dm (by omega) ?_
   rw [List.take_length];exact hK
theorem apI {α β δ:Type} (g:α→β) (d:α) (a:List α) (t:δ) (hlen:a.length≤4000000) {K:List β×Unit→Prop} (hK:K (a.map g,())):
 ∃ (I:(Unit×Int×Unit)×List β×Unit→Prop),∃ (μ:(Unit×Int×Unit)×List β×Unit→Nat),I (((),(0:Int),()),[],())∧∀ (y:(Unit×Int×Unit)×List β×Unit),I y→
   bif decide (y.1.2.1<(a.length:Int)) then
    ((0:Int)≤y.1.2.1∧y.1.2.1<(a.length:Int))∧
      List.length y.2.1+1≤big∧t=t∧I (((),IntKind.i64.wrap (y.1.2.1+(1:Int)),()),y.2.1++[g (a.getD (Int.toNat y.1.2.1) d)],())∧μ (((),IntKind.i64.wrap (y.1.2.1+(1:Int)),()),y.2.1++[g (a.getD (Int.toNat y.1.2.1) d)],())<μ y
   else K y.2:=by
 obtain ⟨I,μ,h0,h1⟩:=afN (fun _=>true) g d a t (A:=fun _=>True) (fun _ _=>trivial) hlen (K:=K) (by rw [List.filter_eq_self.2 fun _ _=>rfl];exact hK)
 refine ⟨I,μ,h0,fun y hy=>?_⟩
 have:=h1 y hy
 revert this
 cases decide (y.1.2.1<(a.length:Int)) with
 |true=>exact fun h=>⟨h.1,h.2.2⟩
 |false=>exact id
end Go.Fw
