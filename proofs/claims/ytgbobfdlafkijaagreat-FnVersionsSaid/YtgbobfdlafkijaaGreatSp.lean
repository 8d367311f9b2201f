import Derived.Test.YtgbobfdlafkijaaGreatFwA
import Derived.Lib.ItoaNum
import Derived.Lib.ItoaLen
import Derived.Lib.Join
import Derived.Test.YtgbobfdlafkijaaGreatFwC
namespace Sp
open Go
abbrev Bytes:=List UInt8
abbrev LI:=List (Int×Unit)
abbrev LS:=List (Bytes×Unit)
theorem take_succ' {α:Type} (a:List α) (n:Nat) (d:α) (h:n<a.length):a.take (n+1)=a.take n++[a.getD n d]:=by
 rw [List.take_succ_eq_append_getElem h,List.getD_eq_getElem?_getD,List.getElem?_eq_getElem h];rfl
def amY (l:LI):Prop:=∀ x∈l,-9223372036854775808≤x.1∧x.1≤9223372036854775807
theorem amY.take {a:LI} (h:amY a) (n:Nat):amY (a.take n):=fun x hx=>h x (List.mem_of_mem_take hx)
theorem amY.get {a:LI} (h:amY a) {n:Nat} (hn:n<a.length) (d:Int×Unit):(Lib.itoa (a.getD n d).1).length≤21:=by
 have:a.getD n d∈a:=by rw [List.getD_eq_getElem?_getD,List.getElem?_eq_getElem hn,Option.getD_some];exact List.getElem_mem hn
 exact Lib.itoa_length_le _ (h _ this).1 (h _ this).2
end Sp
namespace Sp
open Go
set_option synthInstance.maxSize 100000
set_option synthInstance.maxHeartbeats 1000000
abbrev axk:=Int×Int×Bytes×Unit
abbrev jr:=Bytes×Int×Int×Bytes×Unit
abbrev jv:=Int×Int×Int×Bytes×Int×Int×Bytes×Unit
abbrev je:=Int×Int×Bool×Int×List jr×Unit
abbrev gK:=Bytes×List jv×Unit
abbrev aoQ:=Int×Int×Int×Bool×Int×List jr×Int×Bytes×List jv×Unit
instance:DecidableEq axk:=inferInstance
instance:DecidableEq jr:=inferInstance
instance:DecidableEq jv:=inferInstance
instance:DecidableEq je:=inferInstance
instance:DecidableEq gK:=inferInstance
instance:DecidableEq (Int×gK):=inferInstance
instance:DecidableEq (List jr×Int×gK):=inferInstance
instance:DecidableEq (Bool×Int×List jr×Int×gK):=inferInstance
instance ayN:DecidableEq aoQ:=(inferInstance:DecidableEq (Int×Int×Int×Bool×Int×List jr×Int×gK))
instance:DecidableEq (List aoQ):=inferInstance
instance:DecidableEq (List aoQ×Bytes×Int×Unit):=inferInstance
def lower (s:Bytes):Bool:=s.all fun c=>decide (97≤c.toNat)&&decide (c.toNat≤122)
def iR (s:Bytes):Bool:=lower s&&decide (1≤(s.length:Int))&&decide ((s.length:Int)≤6)
def axl (n:Int):Bool:=decide (0≤n)&&decide (n≤1000000000)
def idxFrom:Int→LI→Int
 |_,[]=>-1
 |k,x::r=>if axl x.1 then idxFrom (k+1) r else k
def idxOf (l:LI):Int:=idxFrom 0 l
end Sp
namespace Sp
open Go
abbrev lK:=Bytes×Int×Unit
abbrev jS:=List lK×List je×Int×Unit
instance:DecidableEq lK:=inferInstance
instance:DecidableEq (List lK):=inferInstance
instance:DecidableEq (List je):=inferInstance
instance:DecidableEq (List je×Int×Unit):=inferInstance
instance azd:DecidableEq jS:=(inferInstance:DecidableEq (List lK×List je×Int×Unit))
def usual:List lK:=[([97],1,()),([98],1,()),([110],2,()),([116],2,())]
def lT (f:je):Prop:=f.2.2.2.2.1.length≤1000
def jC (s:jS):Prop:=s.1.length≤1000∧s.2.1.length≤1000∧∀ f∈s.2.1,lT f
def oK (n:Nat) (f:Nat→Bool):Bool:=(List.range n).all f
def kH (s:Bytes):Bool:=lower s&&decide (1≤(s.length:Int))&&decide ((s.length:Int)≤1)
def kK (k n:Int) (s:Bytes):Bool:=
 bif decide (k=0) then decide (n=0)&&decide (s=[])
 else bif decide (k=1) then decide (0≤n)&&decide (n≤999)&&decide (s=[])
 else bif decide (k=2) then iR s&&decide (n=0)
 else false
def kindOf:List lK→Bytes→Int
 |[],_=>0
 |f::r,s=>bif decide (f.1=s) then f.2.1 else kindOf r s
def fieldAt (fs:List lK) (i:Nat):lK:=fs.getD i ([],0,())
def nD (fs:List lK) (i:Nat):Bool:=
 kH (fieldAt fs i).1&&(decide (1≤(fieldAt fs i).2.1)&&decide ((fieldAt fs i).2.1≤2))&&!(decide (0<i)&&!Op.bytesLess (fieldAt fs (i-1)).1 (fieldAt fs i).1)
def gQ (fs:List lK):Bool:=oK fs.length (nD fs)&&decide ((fs.length:Int)≤5)
def kN (fs:List lK) (name:Bytes) (k n:Int) (s:Bytes):Bool:=kK k n s&&!decide (k=0)&&decide (k=kindOf fs name)
def dR (as:List jr) (i:Nat):jr:=as.getD i ([],0,0,[],())
def qK (fs:List lK) (as:List jr) (i:Nat):Bool:=
 kN fs (dR as i).1 (dR as i).2.1 (dR as i).2.2.1 (dR as i).2.2.2.1&&!(decide (0<i)&&!Op.bytesLess (dR as (i-1)).1 (dR as i).1)
def uf (fs:List lK) (as:List jr):Bool:=oK as.length (qK fs as)
def eU (fs:List lK) (f:je):Bool:=
 uf fs f.2.2.2.2.1&&gQ fs&&(decide (1≤f.1)&&decide (f.1≤60))&&(decide (0≤f.2.1)&&decide (f.2.1≤2))&&(decide (0≤f.2.2.2.1)&&decide (f.2.2.2.1≤60))
def fileAt (fs:List je) (i:Nat):je:=fs.getD i (0,0,false,0,[],())
def pJ (s:jS) (i:Nat):Bool:=
 eU s.1 (fileAt s.2.1 i)&&decide ((fileAt s.2.1 i).1<s.2.2.1)&&!(decide (0<i)&&!decide ((fileAt s.2.1 (i-1)).1<(fileAt s.2.1 i).1))
def dF (s:jS):Bool:=
 oK s.2.1.length (pJ s)&&gQ s.1&&decide ((s.2.1.length:Int)≤12)&&(decide (1≤s.2.2.1)&&decide (s.2.2.1≤61))
def Gw:Int→List je→Int→Int
 |_,[],_=>-1
 |k,f::r,id=>bif decide (f.1=id) then k else Gw (k+1) r id
def place (fs:List je) (id:Int):Int:=Gw 0 fs id
def vT (name:Bytes) (b:jr):Bool:=!(b.1==name)
def yc (name:Bytes) (b:jr):Bool:=Op.bytesLess b.1 name||b.1==name
def ahA (as:List jr) (a:jr):List jr:=as.takeWhile (yc a.1)++a::as.dropWhile (yc a.1)
def mV (as:List jr) (name:Bytes) (k n:Int) (s:Bytes):List jr:=
 bif decide (k=0) then as.filter (vT name) else ahA (as.filter (vT name)) (name,k,n,s,())
def bU (s:jS) (f:je):jS×Int×Bool:=
 let g:je:=(s.2.2.1,f.2)
 bif dF s&&decide ((s.2.1.length:Int)<12)&&eU s.1 g then ((s.1,s.2.1++[g],s.2.2.1+1,()),s.2.2.1,true) else (s,0,false)
def fB (s:jS) (id:Int):jS×Bool:=
 bif dF s&&!decide (place s.2.1 id<0) then ((s.1,s.2.1.eraseIdx (place s.2.1 id).toNat,s.2.2.1,()),true) else (s,false)
def J4 {α:Type} (p:α→Bool):Int→List α→Int
 |_,[]=>-1
 |k,f::r=>bif p f then k else J4 p (k+1) r
def findAt {α:Type} (p:α→Bool) (l:List α):Int:=J4 p 0 l
def fieldPlace (l:List lK) (name:Bytes):Int:=findAt (fun f=>f.1==name) l
end Sp
namespace Sp
theorem asx:∀ (n m:Nat) (L:Nat→Nat),(∀ k,k<m→∃ j,j<n∧L j=k)→m≤n
 |0,m,L,h=>by
  rcases Nat.eq_zero_or_pos m with h0|h0
  · omega
  · obtain ⟨j,hj,_⟩:=h 0 h0;omega
 |n+1,m,L,h=>by
  by_cases hv:L n<m
  · have:=asx n (m-1) (fun j=>if L n<L j then L j-1 else L j) fun k hk=>by
     by_cases h1:k<L n
     · obtain ⟨j,hj,e⟩:=h k (by omega)
       have:j≠n:=fun e2=>by subst e2;omega
       exact ⟨j,by omega,by show (if _ then _ else _)=_;rw [if_neg (by omega)];exact e⟩
     · obtain ⟨j,hj,e⟩:=h (k+1) (by omega)
       have:j≠n:=fun e2=>by subst e2;omega
       exact ⟨j,by omega,by show (if _ then _ else _)=_;rw [if_pos (by omega)];omega⟩
    omega
  · have:=asx n m L fun k hk=>by
     obtain ⟨j,hj,e⟩:=h k hk
     have:j≠n:=fun e2=>by subst e2;omega
     exact ⟨j,by omega,e⟩
    omega
abbrev acD:=List (Nat×Nat×Nat)
def qA (E:acD) (L:Nat→Nat):Prop:=∀ e∈E,L e.2.1+e.2.2≤L e.1
def aoR (E:acD) (n:Nat):Prop:=∀ e∈E,e.1<n∧e.2.1<n∧e.2.2≤1
def sumTo (n:Nat) (L:Nat→Nat):Nat:=match n with|0=>0|n+1=>sumTo n L+L n
theorem sumTo_le {L M:Nat→Nat}:∀ n,(∀ i,i<n→L i≤M i)→sumTo n L≤sumTo n M
 |0,_=>Nat.le_refl _
 |n+1,h=>Nat.add_le_add (sumTo_le n fun i hi=>h i (by omega)) (h n (by omega))
theorem asy {L M:Nat→Nat}:∀ n,(∀ i,i<n→L i≤M i)→(∃ i,i<n∧L i<M i)→sumTo n L<sumTo n M
 |0,_,⟨i,hi,_⟩=>by omega
 |n+1,h,⟨i,hi,hl⟩=>by
  have h1:=sumTo_le n fun j hj=>h j (Nat.lt_succ_of_lt hj)
  show sumTo n L+L n<sumTo n M+M n
  by_cases e:i=n
  · subst e;omega
  · have:=asy n (fun j hj=>h j (Nat.lt_succ_of_lt hj)) ⟨i,by omega,hl⟩
    have:=h n (by omega)
    omega
theorem aaI {E:acD} {n:Nat} (hE:aoR E n):∀ (s:Nat) (L:Nat→Nat),sumTo n L≤s→qA E L→∃ M,qA E M∧∀ i,i<n→M i<n
 |s,L,hs,hL=>by
  by_cases hall:∀ i,i<n→L i<n
  · exact ⟨L,hL,hall⟩
  · obtain ⟨i,hi⟩:=Classical.not_forall.1 hall
    have hi1:i<n∧n≤L i:=by
     by_cases h1:i<n
     · exact ⟨h1,Nat.le_of_not_lt fun h2=>hi fun _=>h2⟩
     · exact (hi fun h2=>(h1 h2).elim).elim
    have ayL:∃ k,k<n∧∀ j,j<n→L j≠k:=by
     refine Classical.byContradiction fun hno=>?_
     have:=asx n (n+1) (fun j=>min (L j) n) fun k hk=>by
      by_cases h1:k<n
      · refine Classical.byContradiction fun h2=>hno ⟨k,h1,fun j hj e=>h2 ⟨j,hj,?_⟩⟩
        show min (L j) n=k
        omega
      · exact ⟨i,hi1.1,by show min (L i) n=k;omega⟩
     omega
    obtain ⟨k,hk,hno⟩:=ayL
    have hlt:sumTo n (fun j=>if k<L j then L j-1 else L j)<sumTo n L:=by
     refine asy n (fun j _=>?_) ⟨i,hi1.1,?_⟩
     · show (if _ then _ else _)≤_
       split
       · exact Nat.sub_le _ _
       · exact Nat.le_refl _
     · show (if _ then _ else _)<_;rw [if_pos (by omega)];omega
    match s,hs with
    |0,hs=>omega
    |s+1,hs=>
     refine aaI hE s (fun j=>if k<L j then L j-1 else L j) (by omega) fun e he=>?_
     have h1:=hL e he
     obtain ⟨h2,h3,h4⟩:=hE e he
     have n1:=hno e.1 h2
     have n2:=hno e.2.1 h3
     show (if k<L e.2.1 then L e.2.1-1 else L e.2.1)+e.2.2≤(if k<L e.1 then L e.1-1 else L e.1)
     split<;>split<;>omega
theorem asn {E:acD} {n:Nat} (hE:aoR E n) (h:∃ L,qA E L):∃ M,qA E M∧∀ i,i<n→M i<n:=by
 obtain ⟨L,hL⟩:=h
 exact aaI hE (sumTo n L) L (Nat.le_refl _) hL
structure Raises (E:acD) (n:Nat) (R:(Nat→Nat)→Nat→Nat):Prop where
 up:∀ L i,L i≤R L i
 fix:∀ L,(∀ i,i<n→R L i=L i)→qA E L
 below:∀ L M,qA E M→(∀ i,i<n→L i≤M i)→∀ i,i<n→R L i≤M i
 same:∀ L L',(∀ i,i<n→L i=L' i)→∀ i,i<n→R L i=R L' i
end Sp
namespace Sp
open Go
abbrev QT:=List lK×List je×Int×List gK×Unit
abbrev gX:=Int×List lK×List je×Int×List gK×Int×Unit
instance:DecidableEq (List jv):=inferInstance
instance:DecidableEq gK:=inferInstance
instance:DecidableEq (List gK):=inferInstance
instance:DecidableEq (List gK×Unit):=inferInstance
instance:DecidableEq (Int×List gK×Unit):=inferInstance
instance:DecidableEq (List je×Int×List gK×Unit):=inferInstance
instance azi:DecidableEq QT:=(inferInstance:DecidableEq (List lK×List je×Int×List gK×Unit))
instance:DecidableEq (List gK×Int×Unit):=inferInstance
instance:DecidableEq (Int×List gK×Int×Unit):=inferInstance
instance:DecidableEq (List je×Int×List gK×Int×Unit):=inferInstance
instance:DecidableEq (List lK×List je×Int×List gK×Int×Unit):=inferInstance
instance azs:DecidableEq gX:=(inferInstance:DecidableEq (Int×List lK×List je×Int×List gK×Int×Unit))
instance:DecidableEq (List gX):=inferInstance
def nodeAt (q:List jv) (i:Nat):jv:=q.getD i (0,0,0,[],0,0,[],())
def ahC (n:jv):Bool:=n.1==6||n.1==7
def PE (n:jv):Bool:=n.1==8||n.1==9
def rQ (n:jv) (a:Int):Bool:=
 let kids:=decide (0≤n.2.1)&&decide (n.2.1≤a-1)&&decide (0<a)
 let two:=decide (0≤n.2.2.1)&&decide (n.2.2.1≤a-1)
 let bare:=n.2.2.2.1==[]&&(n.2.2.2.2.1==0&&(n.2.2.2.2.2.1==0&&n.2.2.2.2.2.2.1==[]))
 let flat:=n.2.1==0&&n.2.2.1==0
 let valued:=kK n.2.2.2.2.1 n.2.2.2.2.2.1 n.2.2.2.2.2.2.1
 let void:=n.2.2.2.2.1==0&&(n.2.2.2.2.2.1==0&&n.2.2.2.2.2.2.1==[])
 bif n.1==1 then flat&&bare else bif n.1==2 then flat&&void&&kH n.2.2.2.1 else
 bif n.1==3 then flat&&kH n.2.2.2.1&&valued&&!(n.2.2.2.2.1==0) else bif n.1==4 then flat&&kH n.2.2.2.1&&valued&&n.2.2.2.2.1==1 else
 bif n.1==5 then kids&&n.2.2.1==0&&bare else bif n.1==6||n.1==7 then kids&&two&&bare else
 bif n.1==8||n.1==9 then flat&&void&&iR n.2.2.2.1 else false
def refsOf (a:Int) (n:jv):Nat:=(bif (ahC n||n.1==5)&&n.2.1==a then 1 else 0)+(bif ahC n&&n.2.2.1==a then 1 else 0)
def oU (q:List jv) (a:Int):Nat:=(q.map (refsOf a)).sum
def tV (q:List jv) (i:Nat):Bool:=rQ (nodeAt q i) i&&!(decide ((i:Int)<(q.length:Int)-1)&&!(oU q i==1))
def jF (q:List jv):Bool:=oK q.length (tV q)&&(decide (1≤(q.length:Int))&&decide ((q.length:Int)≤9))
def iF (d:List gK) (i:Nat):gK:=d.getD i ([],[],())
def uP (d:List gK) (i:Nat):Bool:=iR (iF d i).1&&jF (iF d i).2.1&&!(decide (0<i)&&!Op.bytesLess (iF d (i-1)).1 (iF d i).1)
def wK (d:List gK):Bool:=oK d.length (uP d)&&decide ((d.length:Int)≤5)
def IE (q:List jv) (i:Nat) (out:List (Bool×Unit)):List (Bool×Unit):=
 let n:=nodeAt q i
 bif n.1==5 then out.set n.2.1.toNat (true,()) else bif ahC n then (out.set n.2.1.toNat ((out.getD i (false,())).1,())).set n.2.2.1.toNat ((out.getD i (false,())).1,()) else out
def uQ (q:List jv):Nat→List (Bool×Unit)→List (Bool×Unit)
 |0,out=>out
 |n+1,out=>uQ q n (IE q n out)
def negated (q:List jv):List (Bool×Unit):=bif jF q then uQ q q.length (List.replicate q.length (false,())) else []
def gV (q:List jv) (neg:Bool):List Bytes:=(List.range (negated q).length).filterMap fun i=>bif PE (nodeAt q i)&&((negated q).getD i (false,())).1==neg then some (nodeAt q i).2.2.2.1 else none
def Kt:Int→List gK→Bytes→Int
 |_,[],_=>-1
 |k,x::r,s=>bif x.1==s then k else Kt (k+1) r s
def aT (d:List gK) (s:Bytes):Int:=Kt 0 d s
def gY (d:List gK):acD:=
 (List.range d.length).flatMap fun i=>
   ((gV (iF d i).2.1 false).filterMap fun s=>bif decide (0≤aT d s) then some (i,(aT d s).toNat,0) else none)++
   ((gV (iF d i).2.1 true).filterMap fun s=>bif decide (0≤aT d s) then some (i,(aT d s).toNat,1) else none)
open Classical in
noncomputable def ja (d:List gK):Bool:=wK d&&decide (∃ L,qA (gY d) L)
def NW (x:QT):jS:=(x.1,x.2.1,x.2.2.1,())
noncomputable def Ai (x:QT):Bool:=dF (NW x)&&ja x.2.2.2.1
def bM (v:List gX) (i:Nat):gX:=v.getD i (0,[],[],0,[],0,())
def uN (x:gX):QT:=(x.2.1,x.2.2.1,x.2.2.2.1,x.2.2.2.2.1,())
noncomputable def oL (v:List gX) (i:Nat):Bool:=
 (decide (1≤(bM v i).1)&&decide ((bM v i).1≤1000000000))&&(!(decide (0<i)&&decide ((bM v (i-1)).1≥(bM v i).1))&&(Ai (uN (bM v i))&&(decide (0≤(bM v i).2.2.2.2.2.1)&&decide ((bM v i).2.2.2.2.2.1≤99))))
noncomputable def fZ (v:List gX):Bool:=oK v.length (oL v)&&decide ((v.length:Int)≤6)
def Kq:Int→List gX→Int→Int
 |_,[],_=>-1
 |k,x::r,n=>bif x.1==n then k else Kq (k+1) r n
def aB (v:List gX) (n:Int):Int:=Kq 0 v n
noncomputable def iD (v:List gX) (n:Int) (x:QT):List gX×Bool:=
 bif fZ v&&fZ (v++[(n,x.1,x.2.1,x.2.2.1,x.2.2.2.1,0,())]) then (v++[(n,x.1,x.2.1,x.2.2.1,x.2.2.2.1,0,())],true) else (v,false)
def jg (v:List gX) (n:Int):QT×Bool:=bif decide (0≤aB v n) then (uN (bM v (aB v n).toNat),true) else (([],[],0,[],()),false)
def iC (r:LS) (l:List Bytes):Prop:=r.length≤1000∧∀ s,(s,())∈r↔s∈l
def Cc (d:List gK) (bC:List (Int×Unit)) (more:Int):LS→Int
 |[]=>0
 |x::r=>max (bif decide (0≤aT d x.1) then (bC.getD (aT d x.1).toNat (0,())).1+more else 0) (Cc d bC more r)
def Vx (l:LS) (s:Bytes):LS:=
 let n:=(l.takeWhile fun x=>Op.bytesLess x.1 s).length
 bif decide (n<l.length)&&(l.getD n ([],())).1==s then l else l.take n++[(s,())]++l.drop n
def raised (d:List gK) (bC r:List (Int×Unit)):Prop:=
 r.length=d.length∧(∀ i,i<d.length→(bC.getD i (0,())).1≤(r.getD i (0,())).1)∧(∀ B:Int,(∀ i,i<d.length→(bC.getD i (0,())).1≤B)→∀ i,i<d.length→(r.getD i (0,())).1≤B+5000)∧
 ((∀ i,i<d.length→(r.getD i (0,())).1=(bC.getD i (0,())).1)→qA (gY d) fun i=>(bC.getD i (0,())).1.toNat)∧
 ∀ M,qA (gY d) M→(∀ i,i<d.length→(bC.getD i (0,())).1≤M i)→∀ i,i<d.length→(r.getD i (0,())).1≤M i
def bY (d:List gK):Prop:=d.length≤1000∧∀ x∈d,x.2.1.length≤1000
def fV (x:QT):Prop:=jC (NW x)∧bY x.2.2.2.1
def aH (v:List gX):Prop:=v.length≤1000∧∀ x∈v,fV (uN x)
end Sp
namespace Sp
open Go
def jk (x:gX):Int:=x.2.2.2.2.2.1
def ab4 (x:gX) (p:Int):gX:=(x.1,x.2.1,x.2.2.1,x.2.2.2.1,x.2.2.2.2.1,p,())
def uO (v:List gX) (n more:Int):Bool:=
 decide (0≤aB v n)&&(decide (0≤jk (bM v (aB v n).toNat)+more)&&decide (jk (bM v (aB v n).toNat)+more≤99))
noncomputable def dJ (v:List gX) (n more:Int):List gX×Bool:=
 bif fZ v&&uO v n more then (v.set (aB v n).toNat (ab4 (bM v (aB v n).toNat) (jk (bM v (aB v n).toNat)+more)),true) else (v,false)
def unpinned (x:gX):Bool:=jk x==0
def pO (v:List gX) (n:Nat):List gX:=(v.take n).filter (fun x=>!unpinned x)
noncomputable def collect (v:List gX):List gX:=bif fZ v then pO v (v.length-1)++v.drop (v.length-1) else v
end Sp
namespace Go.Fw
open Go
end Go.Fw
namespace Go.Fw
open Go
theorem iK {p:Prop} [Decidable p] {A B:Prop} (h:p) (a:A):cond (decide p) A B:=by rw [decide_eq_true h];exact a
theorem iL {p:Prop} [Decidable p] {A B:Prop} (h:¬ p) (b:B):cond (decide p) A B:=by rw [decide_eq_false h];exact b
theorem kW {B:((Int×Unit)×Unit→Prop)→((Int×Unit)×Unit→Nat)→(Int×Unit)×Unit→Prop} (len:Nat) (hlen:len≤9223372036854775807) (J:Nat→Prop) (h0:J 0)
 (hstep:∀ I μ (n:Nat),n<len→J n→(J (n+1)→I ((IntKind.i64.wrap ((n:Int)+1),()),())∧μ ((IntKind.i64.wrap ((n:Int)+1),()),())<μ (((n:Int),()),()))→B I μ (((n:Int),()),()))
 (hend:∀ I μ,J len→B I μ (((len:Int),()),())):∃ I,∃ μ,I (((0:Int),()),())∧∀ y,I y→B I μ y:=by
 refine ⟨fun y=>∃ n:Nat,y.1.1=n∧n≤len∧J n,fun y=>((len:Int)-y.1.1).toNat,⟨0,rfl,Nat.zero_le _,h0⟩,?_⟩
 rintro ⟨⟨_,⟨⟩⟩,⟨⟩⟩ ⟨n,rfl,hn,hJ⟩
 rcases Nat.lt_or_ge n len with h|h
 · refine hstep _ _ n h hJ fun hJ'=>?_
   have e:IntKind.i64.wrap ((n:Int)+1)=((n+1:Nat):Int):=iI _ (by omega)
   rw [e]
   exact ⟨⟨n+1,rfl,h,hJ'⟩,by show ((len:Int)-(n+1:Nat)).toNat<((len:Int)-n).toNat;omega⟩
 · have:n=len:=by omega
   subst this
   exact hend _ _ hJ
theorem nR {Y S:Type} (mk:Int→S→Y) (idx:Y→Int) (hidx:∀ i s,idx (mk i s)=i) {B:(Y→Prop)→(Y→Nat)→Y→Prop} (len:Nat) (hlen:len≤9223372036854775807) (J:Nat→S→Prop) {s0:S} (h0:J 0 s0)
 (hstep:∀ I μ (n:Nat) (s:S),n<len→J n s→(∀ s',J (n+1) s'→I (mk (IntKind.i64.wrap ((n:Int)+1)) s')∧μ (mk (IntKind.i64.wrap ((n:Int)+1)) s')<μ (mk n s))→B I μ (mk n s))
 (hend:∀ I μ s,J len s→B I μ (mk len s)):∃ I,∃ μ,I (mk 0 s0)∧∀ y,I y→B I μ y:=by
 refine ⟨fun y=>∃ (n:Nat) (s:S),y=mk n s∧n≤len∧J n s,fun y=>((len:Int)-idx y).toNat,⟨0,s0,rfl,Nat.zero_le _,h0⟩,?_⟩
 rintro _ ⟨n,s,rfl,hn,hJ⟩
 rcases Nat.lt_or_ge n len with h|h
 · refine hstep _ _ n s h hJ fun s' hJ'=>?_
   have e:IntKind.i64.wrap ((n:Int)+1)=((n+1:Nat):Int):=iI _ (by omega)
   rw [e]
   refine ⟨⟨n+1,s',rfl,h,hJ'⟩,?_⟩
   show ((len:Int)-idx (mk (n+1:Nat) s')).toNat<((len:Int)-idx (mk n s)).toNat
   rw [hidx,hidx]
   omega
 · have:n=len:=by omega
   subst this
   exact hend _ _ s hJ
theorem DL {len:Nat} {f:Nat→Bool} {n:Nat} (hn:n<len) (h:f n=false):Sp.oK len f=false:=by
 unfold Sp.oK
 rw [List.all_eq_false]
 exact ⟨n,List.mem_range.2 hn,by rw [h];simp⟩
theorem mO {len:Nat} {f:Nat→Bool} (h:∀ i,i<len→f i=true):Sp.oK len f=true:=by
 unfold Sp.oK
 rw [List.all_eq_true]
 exact fun i hi=>h i (List.mem_range.1 hi)
theorem Zd {len:Nat} {f:Nat→Bool}:Sp.oK len f=true↔∀ i,i<len→f i=true:=by
 unfold Sp.oK
 rw [List.all_eq_true]
 exact ⟨fun h i hi=>h i (List.mem_range.2 hi),fun h i hi=>h i (List.mem_range.1 hi)⟩
theorem dD {n:Nat} {f:Nat→Bool} (h:∀ i,i<n→f i=true) (hn:f n=true):∀ i,i<n+1→f i=true:=fun i hi=>by
 rcases Nat.lt_or_ge i n with h'|h'
 · exact h i h'
 · have:i=n:=by omega
   rw [this];exact hn
theorem jE {b:Bool} (h:(!b)=true):b=false:=by cases b<;>first|rfl|cases h
theorem fJ {b:Bool} (h:(!b)=false):b=true:=by cases b<;>first|rfl|cases h
theorem iO {p:Prop} [Decidable p] (h:decide p=true):p:=of_decide_eq_true h
theorem ji {p:Prop} [Decidable p] (h:decide p=false):¬ p:=of_decide_eq_false h
theorem wz {n:Nat} (h:0<n) (hn:n≤9223372036854775807):IntKind.i64.wrap ((n:Int)-1)=((n-1:Nat):Int):=by rw [iI _ (by omega)];omega
theorem agN {α:Type} {d:α} {a b:List α} (hl:a.length=b.length) (h:∀ i,i<a.length→a.getD i d=b.getD i d):a=b:=by
 refine List.ext_getElem hl fun i h1 h2=>?_
 have:=h i h1
 rw [List.getD_eq_getElem?_getD,List.getD_eq_getElem?_getD,List.getElem?_eq_getElem h1,List.getElem?_eq_getElem h2] at this
 simpa using this
theorem aaq {α β:Type} (e:α→α→Bool) (he:∀ x y,e x y=false↔x=y) (d:α) (a b:List α) (t:β) (hlen:a.length≤9223372036854775807) (hl:a.length=b.length) {K:Bool×Unit→Prop} (hF:a≠b→K (false,())) (hT:a=b→K (true,())):
 ∃ (I:(Int×Unit)×Unit→Prop),∃ (μ:(Int×Unit)×Unit→Nat),I (((0:Int),()),())∧∀ (y:(Int×Unit)×Unit),I y→
   bif decide (y.fst.fst<(a.length:Int)) then
    ((0:Int)≤y.fst.fst∧y.fst.fst<(a.length:Int))∧((0:Int)≤y.fst.fst∧y.fst.fst<(b.length:Int))∧
      (bif e (a.getD (Int.toNat y.fst.fst) d) (b.getD (Int.toNat y.fst.fst) d) then K (false,())
      else t=t∧I ((IntKind.i64.wrap (y.fst.fst+(1:Int)),()),())∧μ ((IntKind.i64.wrap (y.fst.fst+(1:Int)),()),())<μ y)
   else K (true,()):=by
 refine kW a.length hlen (fun n=>∀ i,i<n→a.getD i d=b.getD i d) (fun i hi=>by omega) (fun I μ n hn hJ next=>?_) fun I μ hJ=>(by dsimp only;exact iL (by omega) (hT (agN hl hJ)))
 dsimp only
 refine iK (by omega) ⟨⟨by omega,by omega⟩,⟨by omega,by omega⟩,af (fun h=>hF fun h'=>?_) fun h=>⟨rfl,next fun i hi=>?_⟩⟩
 · subst h'
   have:=(he (a.getD n d) (a.getD n d)).2 rfl
   have h:e (a.getD n d) (a.getD n d)=true:=h
   rw [this] at h;cases h
 · rcases Nat.lt_or_ge i n with h'|h'
   · exact hJ i h'
   · have:i=n:=by omega
     rw [this];exact (he _ _).1 h
theorem abR {α β:Type} (e:α→α→Bool) (he:∀ x y,e x y=false↔x=y) (d:α) (a b:List α) (t:β) (hlen:a.length≤9223372036854775807) (hl:a.length=b.length) {K:Bool×Unit→Prop} (hF:a≠b→K (false,())) (hT:a=b→K (true,())):
 ∃ (I:(Int×Unit)×Unit→Prop),∃ (μ:(Int×Unit)×Unit→Nat),I (((0:Int),()),())∧∀ (y:(Int×Unit)×Unit),I y→
   bif decide (y.fst.fst<(a.length:Int)) then
    ((0:Int)≤y.fst.fst∧y.fst.fst<(a.length:Int))∧((0:Int)≤y.fst.fst∧y.fst.fst<(b.length:Int))∧True∧
      (bif e (a.getD (Int.toNat y.fst.fst) d) (b.getD (Int.toNat y.fst.fst) d) then K (false,())
      else t=t∧I ((IntKind.i64.wrap (y.fst.fst+(1:Int)),()),())∧μ ((IntKind.i64.wrap (y.fst.fst+(1:Int)),()),())<μ y)
   else K (true,()):=by
 refine kW a.length hlen (fun n=>∀ i,i<n→a.getD i d=b.getD i d) (fun i hi=>by omega) (fun I μ n hn hJ next=>?_) fun I μ hJ=>(by dsimp only;exact iL (by omega) (hT (agN hl hJ)))
 dsimp only
 refine iK (by omega) ⟨⟨by omega,by omega⟩,⟨by omega,by omega⟩,trivial,af (fun h=>hF fun h'=>?_) fun h=>⟨rfl,next fun i hi=>?_⟩⟩
 · subst h'
   have:=(he (a.getD n d) (a.getD n d)).2 rfl
   have h:e (a.getD n d) (a.getD n d)=true:=h
   rw [this] at h;cases h
 · rcases Nat.lt_or_ge i n with h'|h'
   · exact hJ i h'
   · have:i=n:=by omega
     rw [this];exact (he _ _).1 h
end Go.Fw
namespace Sp
open Go Go.Fw
theorem agq {name:Bytes}:∀ (s:List lK) (n:Nat),n<s.length→(∀ i,i<n→(s.getD i ([],0,())).1≠name)→(s.getD n ([],0,())).1=name→kindOf s name=(s.getD n ([],0,())).2.1
 |[],n,h,_,_=>by simp at h
 |f::r,0,_,_,he=>by
  have he:f.1=name:=he
  show (bif decide (f.1=name) then f.2.1 else kindOf r name)=f.2.1
  rw [decide_eq_true he];rfl
 |f::r,n+1,h,hne,he=>by
  have h0:f.1≠name:=hne 0 (by omega)
  show (bif decide (f.1=name) then f.2.1 else kindOf r name)=_
  rw [decide_eq_false h0]
  exact agq r n (by simpa using h) (fun i hi=>hne (i+1) (by omega)) he
theorem Zb {name:Bytes}:∀ (s:List lK),(∀ i,i<s.length→(s.getD i ([],0,())).1≠name)→kindOf s name=0
 |[],_=>rfl
 |f::r,hne=>by
  have h0:f.1≠name:=hne 0 (by simp)
  show (bif decide (f.1=name) then f.2.1 else kindOf r name)=_
  rw [decide_eq_false h0]
  exact Zb r fun i hi=>hne (i+1) (by simp;omega)
theorem agO {id:Int}:∀ (s:List je) (k:Int) (n:Nat),n<s.length→(∀ i,i<n→(fileAt s i).1≠id)→(fileAt s n).1=id→Gw k s id=k+n
 |[],_,n,h,_,_=>by simp at h
 |f::r,k,0,_,_,he=>by
  have he:f.1=id:=he
  show (bif decide (f.1=id) then k else Gw (k+1) r id)=_
  rw [decide_eq_true he];simp
 |f::r,k,n+1,h,hne,he=>by
  have h0:f.1≠id:=hne 0 (by omega)
  show (bif decide (f.1=id) then k else Gw (k+1) r id)=_
  rw [decide_eq_false h0]
  show Gw (k+1) r id=_
  rw [agO r (k+1) n (by simpa using h) (fun i hi=>hne (i+1) (by omega)) he]
  omega
theorem aaJ {id:Int}:∀ (s:List je) (k:Int),(∀ i,i<s.length→(fileAt s i).1≠id)→Gw k s id=-1
 |[],_,_=>rfl
 |f::r,k,hne=>by
  have h0:f.1≠id:=hne 0 (by simp)
  show (bif decide (f.1=id) then k else Gw (k+1) r id)=_
  rw [decide_eq_false h0]
  exact aaJ r (k+1) fun i hi=>hne (i+1) (by simp;omega)
theorem WH {id:Int} {s:List je} {n:Nat} (h:n<s.length) (hne:∀ i,i<n→(fileAt s i).1≠id) (he:(fileAt s n).1=id):place s id=n:=by
 unfold place
 rw [agO s 0 n h hne he];omega
theorem amo {id:Int} {s:List je} (hne:∀ i,i<s.length→(fileAt s i).1≠id):place s id=-1:=aaJ s 0 hne
theorem as9 (s:List je) (id:Int):(place s id=-1∧∀ i,i<s.length→(fileAt s i).1≠id)∨∃ n,n<s.length∧place s id=n∧(fileAt s n).1=id∧∀ i,i<n→(fileAt s i).1≠id:=by
 by_cases h:∃ n,n<s.length∧(fileAt s n).1=id
 · obtain ⟨n,h1,h2,h3⟩:=(least s.length (p:=fun n=>(fileAt s n).1=id) h)
   exact .inr ⟨n,h1,WH h1 (fun i hi=>h3 i hi) h2,h2,fun i hi=>h3 i hi⟩
 · have hne:∀ i,i<s.length→(fileAt s i).1≠id:=fun i hi e=>h ⟨i,hi,e⟩
   exact .inl ⟨amo hne,hne⟩
theorem ai7 {s:List lK} {n:Nat} (h:n<s.length) (hn:nD s n=false):gQ s=false:=by
 unfold gQ;rw [DL h hn];rfl
theorem auD {fs:List lK} {s:List jr} {n:Nat} (h:n<s.length) (hn:qK fs s n=false):uf fs s=false:=DL h hn
theorem apW {fs:List lK} {f:je} {n:Nat} (h:n<f.2.2.2.2.1.length) (hn:qK fs f.2.2.2.2.1 n=false):eU fs f=false:=by
 unfold eU;rw [auD h hn];rfl
theorem amm {s:jS} {n:Nat} (h:n<s.2.1.length) (hn:pJ s n=false):dF s=false:=by
 unfold dF;rw [DL h hn];rfl
theorem Dh {s:jS} {i:Nat}:pJ s i=true↔eU s.1 (fileAt s.2.1 i)=true∧(fileAt s.2.1 i).1<s.2.2.1∧(0<i→(fileAt s.2.1 (i-1)).1<(fileAt s.2.1 i).1):=by
 unfold pJ
 rw [Bool.and_eq_true,Bool.and_eq_true,decide_eq_true_eq,and_assoc]
 refine and_congr_right fun _=>and_congr_right fun _=>?_
 by_cases h:0<i
 · simp [h]
 · simp [h]
theorem EL {s:jS}:dF s=true↔(∀ i,i<s.2.1.length→pJ s i=true)∧gQ s.1=true∧s.2.1.length≤12∧1≤s.2.2.1∧s.2.2.1≤61:=by
 unfold dF
 rw [Bool.and_eq_true,Bool.and_eq_true,Bool.and_eq_true,Bool.and_eq_true,decide_eq_true_eq,decide_eq_true_eq,decide_eq_true_eq,Zd]
 constructor
 · rintro ⟨⟨⟨h1,h2⟩,h3⟩,h4,h5⟩;exact ⟨h1,h2,by omega,h4,h5⟩
 · rintro ⟨h1,h2,h3,h4,h5⟩;exact ⟨⟨⟨h1,h2⟩,by omega⟩,h4,h5⟩
theorem avv {fs:List lK} {f:je} (h:eU fs f=true):1≤f.1∧f.1≤60:=by
 unfold eU at h
 simp only [Bool.and_eq_true,decide_eq_true_eq] at h
 exact h.1.1.2
theorem Zj {fs:List je} {g:je} {i:Nat} (h:i<fs.length):fileAt (fs++[g]) i=fileAt fs i:=by
 unfold fileAt
 rw [List.getD_eq_getElem?_getD,List.getElem?_append_left h,← List.getD_eq_getElem?_getD]
theorem ata {fs:List je} {g:je}:fileAt (fs++[g]) fs.length=g:=by
 unfold fileAt
 rw [List.getD_eq_getElem?_getD,List.getElem?_append_right (Nat.le_refl _)];simp
theorem asz {s:jS} {g:je} (h:dF s=true) (hl:s.2.1.length<12) (hg:eU s.1 g=true) (hid:g.1=s.2.2.1):dF (s.1,s.2.1++[g],s.2.2.1+1,())=true:=by
 obtain ⟨h1,h2,h3,h4,h5⟩:=EL.1 h
 have hg1:=avv hg
 refine EL.2 ⟨fun i hi=>?_,h2,by show (s.2.1++[g]).length≤12;simp;omega,by show 1≤s.2.2.1+1;omega,by show s.2.2.1+1≤61;omega⟩
 have hi:i<(s.2.1++[g]).length:=hi
 rw [List.length_append,List.length_cons,List.length_nil] at hi
 refine Dh.2 ?_
 show eU s.1 (fileAt (s.2.1++[g]) i)=true∧(fileAt (s.2.1++[g]) i).1<s.2.2.1+1∧(0<i→(fileAt (s.2.1++[g]) (i-1)).1<(fileAt (s.2.1++[g]) i).1)
 rcases Nat.lt_or_ge i s.2.1.length with hlt|hge
 · obtain ⟨k1,k2,k3⟩:=Dh.1 (h1 i hlt)
   rw [Zj hlt]
   refine ⟨k1,by omega,fun h0=>?_⟩
   rw [Zj (by omega)]
   exact k3 h0
 · have e:i=s.2.1.length:=by omega
   subst e
   rw [ata]
   refine ⟨hg,by omega,fun h0=>?_⟩
   rw [Zj (by omega)]
   have:=(Dh.1 (h1 (s.2.1.length-1) (by omega))).2.1
   omega
theorem yg (s:jS) (f:je):(bU s f=(s,0,false)∧¬ (dF s=true∧s.2.1.length<12∧eU s.1 (s.2.2.1,f.2)=true))∨
 (dF s=true∧s.2.1.length<12∧eU s.1 (s.2.2.1,f.2)=true∧bU s f=((s.1,s.2.1++[(s.2.2.1,f.2)],s.2.2.1+1,()),s.2.2.1,true)):=by
 by_cases h:dF s=true∧s.2.1.length<12∧eU s.1 (s.2.2.1,f.2)=true
 · right
   refine ⟨h.1,h.2.1,h.2.2,?_⟩
   unfold bU
   dsimp only
   rw [h.1,h.2.2,decide_eq_true (by omega)];rfl
 · left
   refine ⟨?_,h⟩
   have:(dF s&&decide ((s.2.1.length:Int)<12)&&eU s.1 (s.2.2.1,f.2))=false:=by
    cases hb:(dF s&&decide ((s.2.1.length:Int)<12)&&eU s.1 (s.2.2.1,f.2)) with
    |false=>rfl
    |true=>
     simp only [Bool.and_eq_true,decide_eq_true_eq] at hb
     exact (h ⟨hb.1.1,by omega,hb.2⟩).elim
   unfold bU
   dsimp only
   rw [this];rfl
theorem aoy {s:jS} (f:je) (h:dF s=true):dF (bU s f).1=true:=by
 rcases yg s f with ⟨e,_⟩|⟨h1,h2,h3,e⟩
 · rw [e];exact h
 · rw [e];exact asz h1 h2 h3 rfl
theorem aqE {s:jS} {f:je} (h:jC s) (hf:lT f):jC (bU s f).1:=by
 rcases yg s f with ⟨e,_⟩|⟨h1,h2,h3,e⟩
 · rw [e];exact h
 · rw [e]
   refine ⟨h.1,by show (s.2.1++[(s.2.2.1,f.2)]).length≤1000;simp;omega,fun g hg=>?_⟩
   have hg:g∈s.2.1++[(s.2.2.1,f.2)]:=hg
   rcases List.mem_append.1 hg with hg|hg
   · exact h.2.2 g hg
   · have:g=(s.2.2.1,f.2):=by simpa using hg
     subst this;exact hf
theorem Df (s:jS) (id:Int):(fB s id=(s,false)∧¬ (dF s=true∧0≤place s.2.1 id))∨
 ∃ n,n<s.2.1.length∧place s.2.1 id=n∧dF s=true∧fB s id=((s.1,s.2.1.eraseIdx n,s.2.2.1,()),true):=by
 rcases as9 s.2.1 id with ⟨h,_⟩|⟨n,hn,h,_,_⟩
 · left
   refine ⟨?_,fun h'=>by omega⟩
   unfold fB
   rw [h];simp
 · cases ho:dF s with
   |false=>
    left
    refine ⟨?_,fun h'=>by cases h'.1⟩
    unfold fB
    rw [ho];rfl
   |true=>
    right
    refine ⟨n,hn,h,rfl,?_⟩
    unfold fB
    rw [ho,h,decide_eq_false (by omega),Int.toNat_natCast];rfl
theorem agP {fs:List je} {n i:Nat}:fileAt (fs.eraseIdx n) i=if i<n then fileAt fs i else fileAt fs (i+1):=by
 unfold fileAt
 rw [List.getD_eq_getElem?_getD,List.getElem?_eraseIdx]
 split<;>rw [List.getD_eq_getElem?_getD]
theorem aqI {s:jS} {n:Nat} (h:dF s=true) (hn:n<s.2.1.length):dF (s.1,s.2.1.eraseIdx n,s.2.2.1,())=true:=by
 obtain ⟨h1,h2,h3,h4,h5⟩:=EL.1 h
 have hlen:(s.2.1.eraseIdx n).length=s.2.1.length-1:=List.length_eraseIdx_of_lt hn
 refine EL.2 ⟨fun i hi=>?_,h2,by show (s.2.1.eraseIdx n).length≤12;omega,h4,h5⟩
 have hi:i<(s.2.1.eraseIdx n).length:=hi
 refine Dh.2 ?_
 show eU s.1 (fileAt (s.2.1.eraseIdx n) i)=true∧(fileAt (s.2.1.eraseIdx n) i).1<s.2.2.1∧(0<i→(fileAt (s.2.1.eraseIdx n) (i-1)).1<(fileAt (s.2.1.eraseIdx n) i).1)
 rw [agP,agP]
 rcases Nat.lt_or_ge i n with hlt|hge
 · rw [if_pos hlt]
   obtain ⟨k1,k2,k3⟩:=Dh.1 (h1 i (by omega))
   refine ⟨k1,k2,fun h0=>?_⟩
   rw [if_pos (by omega)]
   exact k3 h0
 · rw [if_neg (by omega)]
   obtain ⟨k1,k2,k3⟩:=Dh.1 (h1 (i+1) (by omega))
   refine ⟨k1,k2,fun h0=>?_⟩
   have k3:=k3 (by omega)
   rw [Nat.add_sub_cancel] at k3
   split
   · have:=(Dh.1 (h1 i (by omega))).2.2 h0
     omega
   · rw [show i-1+1=i by omega]
     exact k3
theorem aoz {s:jS} (id:Int) (h:dF s=true):dF (fB s id).1=true:=by
 rcases Df s id with ⟨e,_⟩|⟨n,hn,_,ho,e⟩
 · rw [e];exact h
 · rw [e];exact aqI ho hn
theorem aqF {s:jS} (id:Int) (h:jC s):jC (fB s id).1:=by
 rcases Df s id with ⟨e,_⟩|⟨n,hn,_,ho,e⟩
 · rw [e];exact h
 · rw [e]
   refine ⟨h.1,?_,fun g hg=>h.2.2 g (List.mem_of_mem_eraseIdx hg)⟩
   show (s.2.1.eraseIdx n).length≤1000
   have:=h.2.1
   rw [List.length_eraseIdx_of_lt hn];omega
theorem WJ {α:Type} {p:α→Bool} {d:α}:∀ (l:List α) (n:Nat),n≤l.length→(∀ i,i<n→p (l.getD i d)=true)→(n<l.length→p (l.getD n d)=false)→l.takeWhile p=l.take n∧l.dropWhile p=l.drop n
 |[],n,h,_,_=>by simp
 |x::r,0,_,_,h=>by
  have h:p x=false:=h (by simp)
  constructor<;>simp [h]
 |x::r,n+1,hn,h1,h2=>by
  have h0:p x=true:=h1 0 (by omega)
  have:=WJ r n (by simpa using hn) (fun i hi=>h1 (i+1) (by omega)) fun hlt=>h2 (by simpa using hlt)
  constructor<;>simp [h0,this.1,this.2]
end Sp
namespace Sp
open Go Go.Fw
theorem ajf {α:Type} {p:α→Bool} {d:α}:∀ (s:List α) (k:Int) (n:Nat),n<s.length→(∀ i,i<n→p (s.getD i d)=false)→p (s.getD n d)=true→J4 p k s=k+n
 |[],_,n,h,_,_=>by simp at h
 |f::r,k,0,_,_,he=>by
  have he:p f=true:=he
  show (bif p f then k else J4 p (k+1) r)=_
  rw [he];simp
 |f::r,k,n+1,h,hne,he=>by
  have h0:p f=false:=hne 0 (by omega)
  show (bif p f then k else J4 p (k+1) r)=_
  rw [h0]
  show J4 p (k+1) r=_
  rw [ajf r (k+1) n (by simpa using h) (fun i hi=>hne (i+1) (by omega)) he]
  omega
theorem adp {α:Type} {p:α→Bool} {d:α}:∀ (s:List α) (k:Int),(∀ i,i<s.length→p (s.getD i d)=false)→J4 p k s=-1
 |[],_,_=>rfl
 |f::r,k,hne=>by
  have h0:p f=false:=hne 0 (by simp)
  show (bif p f then k else J4 p (k+1) r)=_
  rw [h0]
  exact adp r (k+1) fun i hi=>hne (i+1) (by simp;omega)
theorem ap7 {α:Type} {p:α→Bool} {d:α} {s:List α} {n:Nat} (h:n<s.length) (hne:∀ i,i<n→p (s.getD i d)=false) (he:p (s.getD n d)=true):findAt p s=n:=by
 unfold findAt;rw [ajf s 0 n h hne he];omega
theorem ajg {α:Type} {p:α→Bool} {d:α} {s:List α} (hne:∀ i,i<s.length→p (s.getD i d)=false):findAt p s=-1:=adp s 0 hne
theorem asA {α:Type} (p:α→Bool) (d:α) (s:List α):(findAt p s=-1∧∀ i,i<s.length→p (s.getD i d)=false)∨∃ n,n<s.length∧findAt p s=n∧p (s.getD n d)=true∧∀ i,i<n→p (s.getD i d)=false:=by
 by_cases h:∃ n,n<s.length∧p (s.getD n d)=true
 · obtain ⟨n,h1,h2,h3⟩:=least s.length (p:=fun n=>p (s.getD n d)=true) h
   have h3:∀ i,i<n→p (s.getD i d)=false:=fun i hi=>by simpa using h3 i hi
   exact .inr ⟨n,h1,ap7 h1 h3 h2,h2,h3⟩
 · have hne:∀ i,i<s.length→p (s.getD i d)=false:=fun i hi=>by
    cases hp:p (s.getD i d) with
    |false=>rfl
    |true=>exact (h ⟨i,hi,hp⟩).elim
   exact .inl ⟨ajg hne,hne⟩
end Sp
namespace Sp
open Go
theorem agQ (s:Bytes):∀ (d:List gK) (k:Int),(Kt k d s=-1∧∀ x∈d,x.1≠s)∨∃ n,n<d.length∧Kt k d s=k+n∧(iF d n).1=s∧∀ i,i<n→(iF d i).1≠s
 |[],k=> .inl ⟨rfl,fun x hx=>by cases hx⟩
 |x::r,k=>by
  by_cases h:x.1=s
  · right
    refine ⟨0,by simp,?_,h,fun i hi=>by omega⟩
    rw [Kt,beq_iff_eq.2 h];simp
  · rcases agQ s r (k+1) with ⟨h1,h2⟩|⟨n,h1,h2,h3,h4⟩
    · left
      refine ⟨by rw [Kt,beq_eq_false_iff_ne.2 h];exact h1,fun y hy=>?_⟩
      rcases List.mem_cons.1 hy with rfl|hy
      · exact h
      · exact h2 y hy
    · right
      refine ⟨n+1,by simp;omega,by rw [Kt,beq_eq_false_iff_ne.2 h];show Kt (k+1) r s=_;omega,h3,fun i hi=>?_⟩
      cases i with
      |zero=>exact h
      |succ i=>exact h4 i (by omega)
theorem QI (d:List gK) (s:Bytes):(aT d s=-1∧∀ x∈d,x.1≠s)∨∃ n,n<d.length∧aT d s=n∧(iF d n).1=s∧∀ i,i<n→(iF d i).1≠s:=by
 rcases agQ s d 0 with h|⟨n,h1,h2,h3⟩
 · exact .inl h
 · exact .inr ⟨n,h1,by show Kt 0 d s=_;omega,h3⟩
theorem QV {d:List gK} {s:Bytes} (h:0≤aT d s):aT d s<d.length:=by
 rcases QI d s with ⟨h1,_⟩|⟨n,h1,h2,_⟩<;>omega
theorem NV {d:List gK} {i j m:Nat}:(i,j,m)∈gY d↔i<d.length∧∃ s,((m=0∧s∈gV (iF d i).2.1 false)∨(m=1∧s∈gV (iF d i).2.1 true))∧0≤aT d s∧j=(aT d s).toNat:=by
 unfold gY
 rw [List.mem_flatMap]
 constructor
 · rintro ⟨k,hk,h⟩
   rw [List.mem_range] at hk
   rcases List.mem_append.1 h with h|h
   all_goals
    obtain ⟨s,hs,e⟩:=List.mem_filterMap.1 h
    rw [cond_eq_ite] at e
    split at e
    · next hp=>
      have hp:0≤aT d s:=of_decide_eq_true hp
      cases e
      exact ⟨hk,s,by first|exact .inl ⟨rfl,hs⟩|exact .inr ⟨rfl,hs⟩,hp,rfl⟩
    · cases e
 · rintro ⟨hi,s,h|h,hp,rfl⟩
   · obtain ⟨rfl,hs⟩:=h
     refine ⟨i,List.mem_range.2 hi,List.mem_append.2 (.inl (List.mem_filterMap.2 ⟨s,hs,?_⟩))⟩
     rw [decide_eq_true hp];rfl
   · obtain ⟨rfl,hs⟩:=h
     refine ⟨i,List.mem_range.2 hi,List.mem_append.2 (.inr (List.mem_filterMap.2 ⟨s,hs,?_⟩))⟩
     rw [decide_eq_true hp];rfl
theorem tN (d:List gK):aoR (gY d) d.length:=by
 rintro ⟨i,j,m⟩ he
 obtain ⟨h1,s,h2,h3,h4⟩:=NV.1 he
 have:=QV h3
 refine ⟨h1,?_,?_⟩
 · show j<_;omega
 · show m≤1;rcases h2 with ⟨h,_⟩|⟨h,_⟩<;>omega
def lv (l:List (Int×Unit)) (i:Nat):Int:=(l.getD i (0,())).1
theorem aso {l:List (Int×Unit)} {i:Nat} (hi:i<l.length) (x:Int) (k:Nat):lv (l.set i (x,())) k=if k=i then x else lv l k:=by
 unfold lv
 rw [List.getD_eq_getElem?_getD,List.getD_eq_getElem?_getD]
 by_cases h:k=i
 · subst h;rw [List.getElem?_set_self hi,if_pos rfl];rfl
 · rw [List.getElem?_set_ne (fun e=>h e.symm),if_neg h]
theorem asw {l:List (Int×Unit)} {i:Nat} (hi:i<l.length):(lv l i,())∈l:=by
 unfold lv
 rw [List.getD_eq_getElem?_getD,List.getElem?_eq_getElem hi]
 exact List.getElem_mem hi
theorem avq {l:List (Int×Unit)} {p:Int→Prop} (h:∀ i,i<l.length→p (lv l i)):∀ x∈l,p x.1:=by
 intro x hx
 obtain ⟨i,hi,e⟩:=List.getElem_of_mem hx
 have:=h i hi
 unfold lv at this
 rw [List.getD_eq_getElem?_getD,List.getElem?_eq_getElem hi] at this
 rw [← e];exact this
theorem axc {a b:List (Int×Unit)} (hl:a.length=b.length) (h:∀ i,i<a.length→lv a i=lv b i):a=b:=by
 refine List.ext_getElem hl fun i h1 h2=>?_
 have:=h i h1
 unfold lv at this
 rw [List.getD_eq_getElem?_getD,List.getD_eq_getElem?_getD,List.getElem?_eq_getElem h1,List.getElem?_eq_getElem h2] at this
 exact Prod.ext this rfl
structure Qi (d:List gK) (bC cur:List (Int×Unit)) (g:Int) (P:Nat×Nat×Nat→Prop):Prop where
 len:cur.length=d.length
 up:∀ i,i<d.length→lv bC i≤lv cur i
 grow:∀ B,(∀ i,i<d.length→lv bC i≤B)→∀ i,i<d.length→lv cur i≤B+g
 fix:(∀ i,i<d.length→lv cur i=lv bC i)→∀ e,P e→lv bC e.2.1+e.2.2≤lv bC e.1
 below:∀ M,qA (gY d) M→(∀ i,i<d.length→lv bC i≤M i)→∀ i,i<d.length→lv cur i≤M i
theorem Qi.start {d:List gK} {bC:List (Int×Unit)} (h:bC.length=d.length):Qi d bC bC 0 fun _=>False:=
 ⟨h,fun _ _=>Int.le_refl _,fun B hB i hi=>by have:=hB i hi;omega,fun _ e he=>he.elim,fun _ _ h=>h⟩
theorem Qi.weaken {d:List gK} {bC cur:List (Int×Unit)} {g g':Int} {P P':Nat×Nat×Nat→Prop} (h:Qi d bC cur g P) (hg:g≤g') (hP:∀ e,P' e→P e):Qi d bC cur g' P':=
 ⟨h.len,h.up,fun B hB i hi=>by have:=h.grow B hB i hi;omega,fun hx e he=>h.fix hx e (hP e he),h.below⟩
theorem Qi.still {d:List gK} {bC cur:List (Int×Unit)} {g:Int} {P:Nat×Nat×Nat→Prop} (h:Qi d bC cur g P) {i j m:Nat} (he:(i,j,m)∈gY d) (hle:lv cur j+m≤lv cur i):Qi d bC cur g fun e=>P e∨e=(i,j,m):=by
 obtain ⟨h1,h2,_⟩:=tN d _ he
 refine ⟨h.len,h.up,h.grow,fun hx e hp=>?_,h.below⟩
 rcases hp with hp|rfl
 · exact h.fix hx e hp
 · have a:=hx i h1
   have b:=hx j h2
   show lv bC j+m≤lv bC i
   omega
theorem Qi.set {d:List gK} {bC cur:List (Int×Unit)} {g:Int} {P:Nat×Nat×Nat→Prop} (h:Qi d bC cur g P) {i j m:Nat} (he:(i,j,m)∈gY d) (hlt:lv cur i<lv cur j+m):Qi d bC (cur.set i (lv cur j+m,())) (g+m) fun e=>P e∨e=(i,j,m):=by
 obtain ⟨h1,h2,_⟩:=tN d _ he
 have h1:i<d.length:=h1
 have h2:j<d.length:=h2
 have hl:=h.len
 have hs:=fun k=>aso (l:=cur) (i:=i) (by omega) (lv cur j+m) k
 refine ⟨by simp;omega,fun k hk=>?_,fun B hB k hk=>?_,fun hx e hp=>?_,fun M hM hb k hk=>?_⟩
 · rw [hs];have a:=h.up k hk;split
   · next e=>subst e;omega
   · exact a
 · rw [hs]
   have a:=h.grow B hB k hk
   have b:=h.grow B hB j h2
   split<;>omega
 · have:=hx i h1
   rw [hs,if_pos rfl] at this
   have:=h.up i h1
   omega
 · rw [hs]
   split
   · next e=>
     subst e
     have a:=h.below M hM hb j h2
     have b:=hM _ he
     have b:M j+m≤M k:=b
     omega
   · exact h.below M hM hb k hk
theorem Qi.raised {d:List gK} {bC cur:List (Int×Unit)} {g:Int} {P:Nat×Nat×Nat→Prop} (h:Qi d bC cur g P) (hg:g≤5000) (hP:∀ e∈gY d,P e) (h0:∀ i,i<d.length→0≤lv bC i):raised d bC cur:=by
 refine ⟨h.len,h.up,fun B hB i hi=>by have:=h.grow B hB i hi;show lv cur i≤_;omega,fun hx e he=>?_,h.below⟩
 have a:=h.fix hx e (hP e he)
 obtain ⟨h1,h2,_⟩:=tN d _ he
 have b:=h0 _ h1
 have c:=h0 _ h2
 show (lv bC e.2.1).toNat+e.2.2≤(lv bC e.1).toNat
 omega
theorem amZ (d:List gK) (bC:List (Int×Unit)) (hl:bC.length=d.length):∀ (E:acD),(∀ e∈E,e∈gY d)→∃ cur:List (Int×Unit),cur.length=d.length∧(∀ i,i<d.length→lv bC i≤lv cur i∧(lv cur i=lv bC i∨∃ e∈E,e.1=i∧lv cur i=lv bC e.2.1+e.2.2))∧∀ e∈E,lv bC e.2.1+e.2.2≤lv cur e.1
 |[],_=>⟨bC,hl,fun i hi=>⟨Int.le_refl _, .inl rfl⟩,fun e he=>by cases he⟩
 |e::E,hE=>by
  obtain ⟨cur,h1,h2,h3⟩:=amZ d bC hl E fun x hx=>hE x (List.mem_cons_of_mem _ hx)
  obtain ⟨g1,g2,_⟩:=tN d e (hE e List.mem_cons_self)
  by_cases h:lv cur e.1<lv bC e.2.1+e.2.2
  · have hs:=fun k=>aso (l:=cur) (i:=e.1) (by omega) (lv bC e.2.1+e.2.2) k
    refine ⟨cur.set e.1 (lv bC e.2.1+e.2.2,()),by simp;omega,fun i hi=>?_,fun x hx=>?_⟩
    · rw [hs]
      have:=h2 i hi
      split
      · next hi'=>exact ⟨by rw [hi'] at this ⊢;omega, .inr ⟨e,List.mem_cons_self,hi'.symm,rfl⟩⟩
      · refine ⟨this.1,this.2.imp_right fun ⟨x,hx,hy⟩=>⟨x,List.mem_cons_of_mem _ hx,hy⟩⟩
    · rw [hs]
      rcases List.mem_cons.1 hx with rfl|hx
      · rw [if_pos rfl];omega
      · have:=h3 x hx
        split
        · next he=>rw [he] at this;omega
        · exact this
  · refine ⟨cur,h1,fun i hi=>?_,fun x hx=>?_⟩
    · have:=h2 i hi
      exact ⟨this.1,this.2.imp_right fun ⟨x,hx,hy⟩=>⟨x,List.mem_cons_of_mem _ hx,hy⟩⟩
    · rcases List.mem_cons.1 hx with rfl|hx
      · omega
      · exact h3 x hx
theorem as8 (d:List gK) (bC:List (Int×Unit)) (hl:bC.length=d.length) (h0:∀ i,i<d.length→0≤lv bC i):∃ cur,raised d bC cur:=by
 obtain ⟨cur,h1,h2,h3⟩:=amZ d bC hl (gY d) fun _ h=>h
 refine ⟨cur,h1,fun i hi=>(h2 i hi).1,fun B hB i hi=>?_,fun hx e he=>?_,fun M hM hb i hi=>?_⟩
 · show lv cur i≤_
   rcases (h2 i hi).2 with h|⟨e,he,rfl,h⟩
   · rw [h];have:=hB i hi;show (bC.getD i (0,())).1≤_;omega
   · obtain ⟨_,g2,g3⟩:=tN d e he
     have:lv bC e.2.1≤B:=hB _ g2
     omega
 · obtain ⟨g1,g2,_⟩:=tN d e he
   have a:=h3 e he
   have b:=h0 _ g1
   have c:=h0 _ g2
   have x:lv cur e.1=lv bC e.1:=hx _ g1
   show (lv bC e.2.1).toNat+e.2.2≤(lv bC e.1).toNat
   omega
 · show lv cur i≤_
   rcases (h2 i hi).2 with h|⟨e,he,rfl,h⟩
   · rw [h];exact hb i hi
   · obtain ⟨_,g2,_⟩:=tN d e he
     have a:lv bC e.2.1≤M e.2.1:=hb _ g2
     have b:=hM e he
     omega
theorem NU {d:List gK} {bC:List (Int×Unit)} {more:Int}:∀ (r:LS) (B:Int),Cc d bC more r≤B↔0≤B∧∀ x∈r,0≤aT d x.1→lv bC (aT d x.1).toNat+more≤B
 |[],B=>by simp [Cc]
 |x::r,B=>by
  have ih:=NU (d:=d) (bC:=bC) (more:=more) r B
  rw [Cc]
  have e:∀ a b:Int,max a b≤B↔a≤B∧b≤B:=fun a b=>by omega
  rw [e,ih]
  simp only [List.mem_cons,forall_eq_or_imp]
  by_cases h:0≤aT d x.1
  · rw [decide_eq_true h]
    show lv bC _+more≤B∧_↔_
    constructor
    · exact fun ⟨a,b,c⟩=>⟨b,fun _=>a,c⟩
    · exact fun ⟨a,b,c⟩=>⟨b h,a,c⟩
  · rw [decide_eq_false h]
    show (0:Int)≤B∧_↔_
    constructor
    · exact fun ⟨a,b,c⟩=>⟨b,fun h'=>(h h').elim,c⟩
    · exact fun ⟨a,b,c⟩=>⟨a,a,c⟩
def Ep (l:List (Int×Unit)):Nat→Int
 |0=>0
 |n+1=>Ep l n+lv l n
theorem akn {a b:List (Int×Unit)}:∀ n,(∀ i,i<n→lv a i≤lv b i)→Ep a n≤Ep b n
 |0,_=>Int.le_refl _
 |n+1,h=>Int.add_le_add (akn n fun i hi=>h i (by omega)) (h n (by omega))
theorem akm {a b:List (Int×Unit)}:∀ n,(∀ i,i<n→lv a i≤lv b i)→(∃ i,i<n∧lv a i<lv b i)→Ep a n<Ep b n
 |0,_,⟨i,hi,_⟩=>by omega
 |n+1,h,⟨i,hi,hl⟩=>by
  have h1:=akn n fun j hj=>h j (Nat.lt_succ_of_lt hj)
  show Ep a n+lv a n<Ep b n+lv b n
  by_cases e:i=n
  · subst e;omega
  · have:=akm n (fun j hj=>h j (Nat.lt_succ_of_lt hj)) ⟨i,by omega,hl⟩
    have:=h n (by omega)
    omega
theorem Zc {a:List (Int×Unit)} {b:Nat}:∀ n:Nat,(∀ i,i<n→lv a i≤b)→Ep a n≤(n*b:Nat)
 |0,_=>by simp [Ep]
 |n+1,h=>by
  have h1:=Zc n fun i hi=>h i (Nat.lt_succ_of_lt hi)
  have h2:=h n (by omega)
  show Ep a n+lv a n≤((n+1)*b:Nat)
  rw [Nat.succ_mul];omega
theorem agx {a:List (Int×Unit)}:∀ n:Nat,(∀ i,i<n→0≤lv a i)→0≤Ep a n
 |0,_=>Int.le_refl _
 |n+1,h=>Int.add_nonneg (agx n fun i hi=>h i (by omega)) (h n (by omega))
theorem QG {d:List gK}:ja d=true↔wK d=true∧∃ L,qA (gY d) L:=by
 unfold ja
 simp
theorem amA {d:List gK} (h:wK d=true):d.length≤5:=by
 unfold wK at h
 simp only [Bool.and_eq_true,decide_eq_true_eq] at h
 omega
end Sp
namespace Go.Fw
open Go
theorem asi {α:Type} {l:List α} {lo:Nat} {news:List α} (h:lo+news.length≤l.length):(gZ l lo news).length=l.length:=by
 unfold gZ
 simp only [List.length_append,List.length_take,List.length_drop]
 omega
theorem apY {α:Type} {l:List α} {lo k:Nat} {news:List α} (hk:k≤lo) (h:lo≤l.length):(gZ l lo news).take k=l.take k:=by
 unfold gZ
 rw [List.append_assoc,List.take_append_of_le_length (by rw [List.length_take];omega),List.take_take,Nat.min_eq_left hk]
theorem eqL {α β:Type} (e:α→α→Bool) (he:∀ x y,e x y=false↔x=y) (d:α) (a b:List α) [Decidable (a=b)] (t:β) (hlen:a.length≤maxLen) {K:Bool×Unit→Prop} (hK:K (decide (a=b),())):
 bif ((a.length:Int)) !=(b.length:Int) then K (false,()) else
 ∃ (I:(Int×Unit)×Unit→Prop),∃ (μ:(Int×Unit)×Unit→Nat),I (((0:Int),()),())∧∀ (y:(Int×Unit)×Unit),I y→
   bif decide (y.fst.fst<(a.length:Int)) then
    ((0:Int)≤y.fst.fst∧y.fst.fst<(a.length:Int))∧((0:Int)≤y.fst.fst∧y.fst.fst<(b.length:Int))∧
      (bif e (a.getD (Int.toNat y.fst.fst) d) (b.getD (Int.toNat y.fst.fst) d) then K (false,())
      else t=t∧I ((IntKind.i64.wrap (y.fst.fst+(1:Int)),()),())∧μ ((IntKind.i64.wrap (y.fst.fst+(1:Int)),()),())<μ y)
   else K (true,()):=by
 rw [maxLen_eq] at hlen
 refine af (fun h=>?_) fun h=>?_
 · have h:(a.length:Int)≠b.length:=by simpa using h
   rw [decide_eq_false fun e=>h (by rw [e])] at hK
   exact hK
 · have h:(a.length:Int)=b.length:=by simpa using h
   exact aaq e he d a b t hlen (by omega) (fun e=>by rw [decide_eq_false e] at hK;exact hK) fun e=>by rw [decide_eq_true e] at hK;exact hK
theorem avV {α β:Type} (e:α→α→Bool) (he:∀ x y,e x y=false↔x=y) (d:α) (a b:List α) [Decidable (a=b)] (t:β) (hlen:a.length≤maxLen) {K:Bool×Unit→Prop} (hK:K (decide (a=b),())):
 bif ((a.length:Int)) !=(b.length:Int) then K (false,()) else
 ∃ (I:(Int×Unit)×Unit→Prop),∃ (μ:(Int×Unit)×Unit→Nat),I (((0:Int),()),())∧∀ (y:(Int×Unit)×Unit),I y→
   bif decide (y.fst.fst<(a.length:Int)) then
    ((0:Int)≤y.fst.fst∧y.fst.fst<(a.length:Int))∧((0:Int)≤y.fst.fst∧y.fst.fst<(b.length:Int))∧True∧
      (bif e (a.getD (Int.toNat y.fst.fst) d) (b.getD (Int.toNat y.fst.fst) d) then K (false,())
      else t=t∧I ((IntKind.i64.wrap (y.fst.fst+(1:Int)),()),())∧μ ((IntKind.i64.wrap (y.fst.fst+(1:Int)),()),())<μ y)
   else K (true,()):=by
 rw [maxLen_eq] at hlen
 refine af (fun h=>?_) fun h=>?_
 · have h:(a.length:Int)≠b.length:=by simpa using h
   rw [decide_eq_false fun e=>h (by rw [e])] at hK
   exact hK
 · have h:(a.length:Int)=b.length:=by simpa using h
   exact abR e he d a b t hlen (by omega) (fun e=>by rw [decide_eq_false e] at hK;exact hK) fun e=>by rw [decide_eq_true e] at hK;exact hK
theorem axe {α β:Type} (p:α→Bool) (d:α) (a:List α) (t:β) (hlen:a.length≤maxLen) {K:Int×Unit→Prop} (hK:K (Sp.findAt p a,())):
 ∃ (I:(Int×Unit)×Unit→Prop),∃ (μ:(Int×Unit)×Unit→Nat),I (((0:Int),()),())∧∀ (y:(Int×Unit)×Unit),I y→
   bif decide (y.fst.fst<(a.length:Int)) then
    ((0:Int)≤y.fst.fst∧y.fst.fst<(a.length:Int))∧True∧
      (bif p (a.getD (Int.toNat y.fst.fst) d) then K (y.fst.fst,())
      else t=t∧I ((IntKind.i64.wrap (y.fst.fst+(1:Int)),()),())∧μ ((IntKind.i64.wrap (y.fst.fst+(1:Int)),()),())<μ y)
   else K ((-1:Int),()):=by
 rw [maxLen_eq] at hlen
 refine kW a.length hlen (fun n=>∀ i,i<n→p (a.getD i d)=false) (fun i hi=>by omega) (fun I μ n hn hJ next=>?_) fun I μ hJ=>?_
 · dsimp only
   refine iK (by omega) ⟨⟨by omega,by omega⟩,trivial,af (fun h=>?_) fun h=>⟨rfl,next fun i hi=>?_⟩⟩
   · rw [Sp.ap7 hn hJ h] at hK;exact hK
   · rcases Nat.lt_or_ge i n with h'|h'
     · exact hJ i h'
     · have:i=n:=by omega
       rw [this];exact h
 · dsimp only
   refine iL (by omega) ?_
   rw [Sp.ajg hJ] at hK;exact hK
theorem awM {α β:Type} (p:α→Bool) (d:α) (s:List α) (t:β) (hlen:s.length≤4611686018427387903) {K:(List α×Unit)×Unit→Prop} (hK:K ((s.filter fun x=>!p x,()),())):
 bif Sp.findAt p s==(-1:Int) then K ((s,()),()) else
 ∃ (I:(Int×Int×Unit)×List α×Unit→Prop),∃ (μ:(Int×Int×Unit)×List α×Unit→Nat),
   I ((Sp.findAt p s,IntKind.i64.wrap (Sp.findAt p s+(1:Int)),()),s,())∧∀ (y:(Int×Int×Unit)×List α×Unit),I y→
     bif decide (y.fst.snd.fst<(↑(List.length y.snd.fst):Int)) then
      ((0:Int)≤y.fst.snd.fst∧y.fst.snd.fst<(↑(List.length y.snd.fst):Int))∧Int.toNat y.fst.snd.fst<List.length y.snd.fst∧True∧
        (bif !p (List.getD y.snd.fst (Int.toNat y.fst.snd.fst) d) then
          ((0:Int)≤y.fst.fst∧y.fst.fst<(↑(List.length y.snd.fst):Int))∧Int.toNat y.fst.fst<List.length y.snd.fst∧t=t∧
            I ((IntKind.i64.wrap (y.fst.fst+(1:Int)),IntKind.i64.wrap (y.fst.snd.fst+(1:Int)),()),List.set y.snd.fst (Int.toNat y.fst.fst) (List.getD y.snd.fst (Int.toNat y.fst.snd.fst) d),())∧
            μ ((IntKind.i64.wrap (y.fst.fst+(1:Int)),IntKind.i64.wrap (y.fst.snd.fst+(1:Int)),()),List.set y.snd.fst (Int.toNat y.fst.fst) (List.getD y.snd.fst (Int.toNat y.fst.snd.fst) d),())<μ y
        else t=t∧I ((y.fst.fst,IntKind.i64.wrap (y.fst.snd.fst+(1:Int)),()),y.snd.fst,())∧μ ((y.fst.fst,IntKind.i64.wrap (y.fst.snd.fst+(1:Int)),()),y.snd.fst,())<μ y)
     else
      (0:Nat)<List.length y.snd.fst∧((0:Int)≤y.fst.fst∧y.fst.fst≤(↑(List.length y.snd.fst):Int))∧
        (0:Nat)+Int.toNat y.fst.fst+(List.length y.snd.fst-Int.toNat y.fst.fst)≤List.length y.snd.fst∧
          ((0:Nat)<(gZ y.snd.fst ((0:Nat)+Int.toNat y.fst.fst) (List.replicate (List.length y.snd.fst-Int.toNat y.fst.fst) d)).length∧
            List.length y.snd.fst≤(gZ y.snd.fst ((0:Nat)+Int.toNat y.fst.fst) (List.replicate (List.length y.snd.fst-Int.toNat y.fst.fst) d)).length)∧
            ((0:Int)≤y.fst.fst∧y.fst.fst≤(↑(List.take (List.length y.snd.fst) (gZ y.snd.fst ((0:Nat)+Int.toNat y.fst.fst) (List.replicate (List.length y.snd.fst-Int.toNat y.fst.fst) d))).length:Int))∧
              K ((List.take (Int.toNat y.fst.fst) (List.take (List.length y.snd.fst) (gZ y.snd.fst ((0:Nat)+Int.toNat y.fst.fst) (List.replicate (List.length y.snd.fst-Int.toNat y.fst.fst) d))),()),()):=by
 rcases Sp.asA p d s with ⟨e,hno⟩|⟨n,hn,e,he,hne⟩
 · rw [e]
   have:s.filter (fun x=>!p x)=s:=List.filter_eq_self.2 fun x hx=>by
    obtain ⟨i,hi,rfl⟩:=List.getElem_of_mem hx
    have:=hno i hi
    rw [List.getD_eq_getElem?_getD,List.getElem?_eq_getElem hi] at this
    exact congrArg Bool.not this
   rw [this] at hK
   exact hK
 · rw [e]
   have e1:(((n:Nat):Int)==-1)=false:=by rw [beq_eq_false_iff_ne];omega
   rw [e1]
   have w1:∀ k:Nat,k≤4611686018427387903→IntKind.i64.wrap ((k:Int)+1)=((k+1:Nat):Int):=fun k hk=>iI _ (by omega)
   rw [w1 n (by omega)]
   refine ⟨fun y=>∃ (i j:Nat) (l:List α),y=(((i:Int),(j:Int),()),l,())∧i<j∧j≤s.length∧l.length=s.length∧l.take i=(s.take j).filter (fun x=>!p x)∧∀ t,j≤t→l.getD t d=s.getD t d,
    fun y=>((s.length:Int)-y.1.2.1).toNat,⟨n,n+1,s,rfl,by omega,by omega,rfl,?_,fun _ _=>rfl⟩,?_⟩
   · rw [Sp.take_succ' s n d hn,List.filter_append,List.filter_cons]
     have h1:(!p (s.getD n d))=false:=congrArg Bool.not he
     rw [h1]
     have h2:(s.take n).filter (fun x=>!p x)=s.take n:=List.filter_eq_self.2 fun x hx=>by
      obtain ⟨i,hi,rfl⟩:=List.getElem_of_mem hx
      have hi':i<n:=by rw [List.length_take] at hi;omega
      have:=hne i hi'
      rw [List.getD_eq_getElem?_getD,List.getElem?_eq_getElem (by omega)] at this
      rw [List.getElem_take]
      exact congrArg Bool.not this
     rw [h2];simp
   · rintro y ⟨i,j,l,rfl,hij,hj,hl,ht,hs⟩
     dsimp only
     refine af (fun h=>?_) fun h=>?_
     · have h:j<s.length:=by have h:=of_decide_eq_true h;omega
       have hsj:=hs j (Nat.le_refl _)
       rw [Int.toNat_natCast,Int.toNat_natCast,hsj,w1 i (by omega),w1 j (by omega)]
       refine ⟨⟨by omega,by omega⟩,by omega,trivial,af (fun h2=>⟨⟨by omega,by omega⟩,by omega,rfl,⟨i+1,j+1,_,rfl,by omega,by omega,by rw [List.length_set];exact hl,?_,fun t ht=>?_⟩,by omega⟩) fun h2=>⟨rfl,⟨i,j+1,l,rfl,by omega,by omega,hl,?_,fun t ht=>hs t (by omega)⟩,by omega⟩⟩
       · rw [Sp.take_succ' _ i d (by rw [List.length_set];omega),Sp.take_succ' s j d h,List.filter_append,List.filter_cons,List.take_set_of_le (Nat.le_refl _),ht]
         have h3:(!p (s.getD j d))=true:=h2
         rw [h3,List.getD_eq_getElem?_getD,List.getElem?_set,if_pos rfl,if_pos (by omega)]
         rfl
       · rw [List.getD_eq_getElem?_getD,List.getElem?_set,if_neg (by omega),← List.getD_eq_getElem?_getD]
         exact hs t (by omega)
       · rw [Sp.take_succ' s j d h,List.filter_append,List.filter_cons,ht]
         have h3:(!p (s.getD j d))=false:=h2
         rw [h3];simp
     · have h:j=s.length:=by have h:=of_decide_eq_false h;omega
       rw [Int.toNat_natCast,Nat.zero_add]
       have l1:(gZ l i (List.replicate (l.length-i) d)).length=l.length:=asi (by rw [List.length_replicate];omega)
       refine ⟨by omega,⟨by omega,by omega⟩,by omega,⟨by rw [l1];omega,by rw [l1];omega⟩,⟨by omega,by rw [List.length_take,l1];omega⟩,?_⟩
       rw [List.take_take,Nat.min_eq_left (by omega),apY (Nat.le_refl _) (by omega),ht,h,List.take_length]
       exact hK
end Go.Fw
