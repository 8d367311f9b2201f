import Derived.Test.YtlmamafnoigopaaGreatDoorFwA
import Derived.Lib.ItoaNum
import Derived.Lib.ItoaLen
import Derived.Lib.Join
import Derived.Test.YtlmamafnoigopaaGreatDoorFwC
import Derived.Lib.Fields
import Derived.Lib.Atoi
import Derived.Lib.SplitLaws
namespace Sp
open Go
abbrev Bytes:=List UInt8
abbrev LI:=List (Int×Unit)
abbrev LS:=List (Bytes×Unit)
def aH(n:Nat)(left:Int):Int:=if left-n<0 then -1 else left-n
def marked(p:Bytes):LI->Bytes
 |[]=>[]
 |x::r=>p++Lib.itoa x.1++marked p r
def GY(v:Int)(a r:LI):Bytes:=Lib.itoa v++marked [32,43] a++marked [32,45] r
def jW:LI->Bytes
 |[]=>[]
 |x::r=>Lib.itoa x.1++marked [32] r
def withIds(s:Bytes)(ids:LI):Bytes:=if ids.isEmpty then s else s++[32]++jW ids
theorem take_succ'{α:Type}(a:List α)(n:Nat)(d:α)(h:n<a.length):a.take (n+1)=a.take n++[a.getD n d]:=by rw[atO h,atn,as5 h];rfl
theorem QB(p:Bytes):∀(a b:LI),marked p (a++b)=marked p a++marked p b
 |[],b=>rfl
 |x::a,b=>by simp only[atP,marked,QB p a b,atz]
theorem CY(p:Bytes)(a:LI)(n:Nat)(d:Int×Unit)(h:n<a.length):marked p (a.take (n+1))=marked p (a.take n)++(p++Lib.itoa (a.getD n d).1):=by rw[take_succ' a n d h,QB];simp[marked]
def oK(l:LI):Prop:=∀x∈l,-9223372036854775808<=x.1/\x.1<=9223372036854775807
theorem Qc(p:Bytes):∀(a:LI),oK a->(marked p a).length<=(p.length+21)*a.length
 |[],_=>by simp[marked]
 |x::a,h=>by have h1:=Lib.itoa_length_le x.1 (h x as9).1 (h x as9).2;have h2:=Qc p a λy hy=>h y (as8 _ hy);simp only[marked,as4,asY,Nat.mul_add];omega
theorem oK.take{a:LI}(h:oK a)(n:Nat):oK (a.take n):=λx hx=>h x (List.mem_of_mem_take hx)
theorem oK.get{a:LI}(h:oK a){n:Nat}(hn:n<a.length)(d:Int×Unit):(Lib.itoa (a.getD n d).1).length<=21:=by
 have:a.getD n d∈a:=by rw[atn,as5 hn,Option.getD_some];exact List.getElem_mem hn
 exact Lib.itoa_length_le _ (h _ this).1 (h _ this).2
theorem pU(p:Bytes)(a:LI)(h:oK a)(n m:Nat)(hn:n<=m):(marked p (a.take n)).length<=(p.length+21)*m:=by refine as3 (Qc p _ (h.take n)) (auY _ ?_);rw[atv];omega
theorem aim(a:LI)(n:Nat)(d:Int×Unit)(h:n<a.length):jW (a.take (n+1))=(if n=0 then[]else jW (a.take n)++[32])++Lib.itoa (a.getD n d).1:=by
 cases a with
 |nil=>simp at h
 |cons x r=>
  cases n with
  |zero=>simp[jW,marked]
  |succ n=>
   have h':n<r.length:=by simpa using h
   simp only[auj,jW,auB,CY [32] r n d h',if_neg (Nat.succ_ne_zero n),atz]
theorem GH(a:LI)(h:oK a):(jW a).length<=22*a.length:=by
 cases a with
 |nil=>simp[jW]
 |cons x r=>have h1:=Lib.itoa_length_le x.1 (h x as9).1 (h x as9).2;have h2:=Qc [32] r λy hy=>h y (as8 _ hy);simp only[jW,as4,asY,as6]at h2 ⊢;omega
theorem amn(a:LI):Lib.join (a.map λx=>Lib.itoa x.1) [32]=jW a:=by
 cases a with
 |nil=>rfl
 |cons x r=>
  have:∀r:LI,Lib.joinTail [32] (r.map λx=>Lib.itoa x.1)=marked [32] r:=by
   intro r
   induction r with
   |nil=>rfl
   |cons y r ih=>simp only[Lib.joinTail,att,List.flatten_cons,marked]at ih ⊢;rw[ih]
  rw[att,Lib.join_cons,this,jW]
theorem ad9(c:Nat):Lib.decDigits c=(if c / 10=0 then[]else Lib.decDigits (c / 10))++[UInt8.ofNat (48+c%10)]:=by
 conv=>lhs;rw[Lib.decDigits]
 by_cases h:c<10
 .rw[dif_pos h,if_pos (by omega),Nat.mod_eq_of_lt h];rfl
 .rw[dif_neg h,if_neg (by omega)]
end Sp
namespace Sp
open Go
set_option synthInstance.maxSize 100000
set_option synthInstance.maxHeartbeats 1000000
abbrev Uz:=Int×Int×Bytes×Unit
abbrev dK:=Bytes×Int×Int×Bytes×Unit
abbrev aS:=Int×Int×Int×Bytes×Int×Int×Bytes×Unit
abbrev aA:=Int×Int×Bool×Int×List dK×Unit
abbrev ay:=Bytes×List aS×Unit
abbrev ja:=Int×Int×Int×Bool×Int×List dK×Int×Bytes×List aS×Unit
def Kz:dK->Nat|(n,_,_,s,_)=>n.length+s.length
def KA:aS->Nat|(_,_,_,n,_,_,s,_)=>n.length+s.length
def fB{α:Type}(f:α->Nat):List α->Nat
 |[]=>0
 |x::r=>1+f x+fB f r
def zV(a:List dK):Nat:=fB Kz a
def Cj(a:List aS):Nat:=fB KA a
def Iq:aA->Nat|(_,_,_,_,a,_)=>zV a
def Hz:ay->Nat|(n,q,_)=>n.length+Cj q
instance:DecidableEq Uz:=inferInstance
instance:DecidableEq dK:=inferInstance
instance:DecidableEq aS:=inferInstance
instance:DecidableEq aA:=inferInstance
instance:DecidableEq ay:=inferInstance
instance:DecidableEq (Int×ay):=inferInstance
instance:DecidableEq (List dK×Int×ay):=inferInstance
instance:DecidableEq (Bool×Int×List dK×Int×ay):=inferInstance
instance arL:DecidableEq ja:=(inferInstance:DecidableEq (Int×Int×Int×Bool×Int×List dK×Int×ay))
instance:DecidableEq (List ja):=inferInstance
instance:DecidableEq (List ja×Bytes×Int×Unit):=inferInstance
def lower(s:Bytes):Bool:=s.all λc=>decide (97<=c.toNat)&&decide (c.toNat<=122)
def eF(s:Bytes):Bool:=lower s&&decide (1<=(s.length:Int))&&decide ((s.length:Int)<=6)
def nS(n:Int):Bool:=decide (0<=n)&&decide (n<=1000000000)
def idxFrom:Int->LI->Int
 |_,[]=>-1
 |k,x::r=>if nS x.1 then idxFrom (k+1) r else k
def idxOf(l:LI):Int:=idxFrom 0 l
end Sp
namespace Sp
open Go
abbrev dI:=Bytes×Int×Unit
abbrev aT:=List dI×List aA×Int×Unit
instance:DecidableEq dI:=inferInstance
instance:DecidableEq (List dI):=inferInstance
instance:DecidableEq (List aA):=inferInstance
instance:DecidableEq (List aA×Int×Unit):=inferInstance
instance asg:DecidableEq aT:=(inferInstance:DecidableEq (List dI×List aA×Int×Unit))
def usual:List dI:=[([97],1,()),([98],1,()),([110],2,()),([116],2,())]
def Oq(f:aA):Prop:=f.2.2.2.2.1.length<=1000
def dH(s:aT):Prop:=s.1.length<=1000/\s.2.1.length<=1000/\∀f∈s.2.1,Oq f
def fK(n:Nat)(f:Nat->Bool):Bool:=(List.range n).all f
def gq(s:Bytes):Bool:=lower s&&decide (1<=(s.length:Int))&&decide ((s.length:Int)<=1)
def gV(k n:Int)(s:Bytes):Bool:=
 bif decide (k=0)then decide (n=0)&&decide (s=[])
 else bif decide (k=1)then decide (0<=n)&&decide (n<=999)&&decide (s=[])
 else bif decide (k=2)then eF s&&decide (n=0)
 else false
def kindOf:List dI->Bytes->Int
 |[],_=>0
 |f::r,s=>bif decide (f.1=s)then f.2.1 else kindOf r s
def fieldAt(fs:List dI)(i:Nat):dI:=fs.getD i ([],0,())
def iL(fs:List dI)(i:Nat):Bool:=
 gq (fieldAt fs i).1&&(decide (1<=(fieldAt fs i).2.1)&&decide ((fieldAt fs i).2.1<=2))&&!(decide (0<i)&&!Op.bytesLess (fieldAt fs (i-1)).1 (fieldAt fs i).1)
def dO(fs:List dI):Bool:=fK fs.length (iL fs)&&decide ((fs.length:Int)<=5)
def gK(fs:List dI)(name:Bytes)(k n:Int)(s:Bytes):Bool:=gV k n s&&!decide (k=0)&&decide (k=kindOf fs name)
def bZ(as:List dK)(i:Nat):dK:=as.getD i ([],0,0,[],())
def iT(fs:List dI)(as:List dK)(i:Nat):Bool:=
 gK fs (bZ as i).1 (bZ as i).2.1 (bZ as i).2.2.1 (bZ as i).2.2.2.1&&!(decide (0<i)&&!Op.bytesLess (bZ as (i-1)).1 (bZ as i).1)
def nZ(fs:List dI)(as:List dK):Bool:=fK as.length (iT fs as)
def dL(fs:List dI)(f:aA):Bool:=
 nZ fs f.2.2.2.2.1&&dO fs&&(decide (1<=f.1)&&decide (f.1<=60))&&(decide (0<=f.2.1)&&decide (f.2.1<=2))&&(decide (0<=f.2.2.2.1)&&decide (f.2.2.2.1<=60))
def fileAt(fs:List aA)(i:Nat):aA:=fs.getD i (0,0,false,0,[],())
def jc(s:aT)(i:Nat):Bool:=
 dL s.1 (fileAt s.2.1 i)&&decide ((fileAt s.2.1 i).1<s.2.2.1)&&!(decide (0<i)&&!decide ((fileAt s.2.1 (i-1)).1<(fileAt s.2.1 i).1))
def bf(s:aT):Bool:=
 fK s.2.1.length (jc s)&&dO s.1&&decide ((s.2.1.length:Int)<=12)&&(decide (1<=s.2.2.1)&&decide (s.2.2.1<=61))
def nG:Int->List aA->Int->Int
 |_,[],_=>-1
 |k,f::r,id=>bif decide (f.1=id)then k else nG (k+1) r id
def place(fs:List aA)(id:Int):Int:=nG 0 fs id
def iJ(f:aA)(u:Int):Bool:=(decide (0<=u)&&decide (u<=2))&&(decide (f.2.1=u)||f.2.2.1)
def ams(f:aA)(u:Int):Bool:=(decide (0<=u)&&decide (u<=2))&&decide (f.2.1=u)
def unlink(fs:List aA)(f:aA):aA:=(f.1,f.2.1,f.2.2.1,(bif decide (place fs f.2.2.2.1<0)then 0 else f.2.2.2.1),f.2.2.2.2.1,())
def visible(s:aT)(u:Int):aT:=
 let fs:=s.2.1.filter (iJ · u)
 (s.1,fs.map (unlink fs),s.2.2.1,())
def abY:aA:=(0,0,false,0,[],())
def dn(s:aT)(id:Int):aA×Bool:=
 bif decide (place s.2.1 id<0)then(abY,false)else(fileAt s.2.1 (place s.2.1 id).toNat,true)
def ahA(name:Bytes)(b:dK):Bool:=!(b.1==name)
def ahB(name:Bytes)(b:dK):Bool:=Op.bytesLess b.1 name||b.1==name
def anV(as:List dK)(a:dK):List dK:=as.takeWhile (ahB a.1)++a::as.dropWhile (ahB a.1)
def aiY(as:List dK)(name:Bytes)(k n:Int)(s:Bytes):List dK:=
 bif decide (k=0)then as.filter (ahA name)else anV (as.filter (ahA name)) (name,k,n,s,())
def xK(s:aT)(f:aA):aT×Int×Bool:=
 let g:aA:=(s.2.2.1,f.2)
 bif bf s&&decide ((s.2.1.length:Int)<12)&&dL s.1 g then((s.1,s.2.1++[g],s.2.2.1+1,()),s.2.2.1,true)else(s,0,false)
def MZ(s:aT)(f:aA):aT×Bool:=
 bif bf s&&!decide (place s.2.1 f.1<0)&&dL s.1 f then((s.1,s.2.1.set (place s.2.1 f.1).toNat f,s.2.2.1,()),true)else(s,false)
def acD(s:aT)(id:Int):aT×Bool:=
 bif bf s&&!decide (place s.2.1 id<0)then((s.1,s.2.1.eraseIdx (place s.2.1 id).toNat,s.2.2.1,()),true)else(s,false)
def Am{α:Type}(p:α->Bool):Int->List α->Int
 |_,[]=>-1
 |k,f::r=>bif p f then k else Am p (k+1) r
def findAt{α:Type}(p:α->Bool)(l:List α):Int:=Am p 0 l
def fieldPlace(l:List dI)(name:Bytes):Int:=findAt (λf=>f.1==name) l
end Sp
namespace Sp
theorem ahC:∀(n m:Nat)(L:Nat->Nat),(∀k,k<m->∃j,j<n/\L j=k)->m<=n
 |0,m,L,h=>by
  simp_all
 |n+1,m,L,h=>by
  by_cases hv:L n<m
  .have:=ahC n (m-1) (λj=>if L n<L j then L j-1 else L j) λk hk=>by
    by_cases h1:k<L n
    .obtain⟨j,hj,e⟩:=h k (by omega)
     grind
    .obtain⟨j,hj,e⟩:=h (k+1) (by omega)
     grind
   omega
  .have:=ahC n m L λk hk=>by
    grind
   omega
abbrev Qd:=List (Nat×Nat×Nat)
def gG(E:Qd)(L:Nat->Nat):Prop:=∀e∈E,L e.2.1+e.2.2<=L e.1
def aek(E:Qd)(n:Nat):Prop:=∀e∈E,e.1<n/\e.2.1<n/\e.2.2<=1
def sumTo(n:Nat)(L:Nat->Nat):Nat:=match n with|0=>0|n+1=>sumTo n L+L n
theorem sumTo_le{L M:Nat->Nat}:∀n,(∀i,i<n->L i<=M i)->sumTo n L<=sumTo n M
 |0,_=>as7 _
 |n+1,h=>Nat.add_le_add (sumTo_le n λi hi=>h i (by omega)) (h n (by omega))
theorem ahD{L M:Nat->Nat}:∀n,(∀i,i<n->L i<=M i)->(∃i,i<n/\L i<M i)->sumTo n L<sumTo n M
 |0,_,⟨i,hi,_⟩=>by omega
 |n+1,h,⟨i,hi,hl⟩=>by
  have h1:=sumTo_le n λj hj=>h j (aun hj);show sumTo n L+L n<sumTo n M+M n;by_cases e:i=n
  .subst e;omega
  .have:=ahD n (λj hj=>h j (aun hj)) ⟨i,by omega,hl⟩
   grind
theorem Ov{E:Qd}{n:Nat}(hE:aek E n):∀(s:Nat)(L:Nat->Nat),sumTo n L<=s->gG E L->∃M,gG E M/\∀i,i<n->M i<n
 |s,L,hs,hL=>by
  by_cases hall:∀i,i<n->L i<n
  .exact⟨L,hL,hall⟩
  .obtain⟨i,hi⟩:=Classical.not_forall.1 hall;have hi1:i<n/\n<=L i:=by
    by_cases h1:i<n
    .exact⟨h1,Nat.le_of_not_lt λh2=>hi λ_=>h2⟩
    .exact(hi λh2=>(h1 h2).elim).elim
   have arD:∃k,k<n/\∀j,j<n->L j≠k:=by
    refine atC λhno=>?_;have:=ahC n (n+1) (λj=>min (L j) n) λk hk=>by
     by_cases h1:k<n
     .refine atC λh2=>hno ⟨k,h1,λj hj e=>h2 ⟨j,hj,?_⟩⟩;omega
     .exact⟨i,hi1.1,by omega⟩
    omega
   obtain⟨k,hk,hno⟩:=arD;have hlt:sumTo n (λj=>if k<L j then L j-1 else L j)<sumTo n L:=by
    refine ahD n (λj _=>?_) ⟨i,hi1.1,?_⟩
    .split
     .exact Nat.sub_le _ _
     .exact as7 _
    .rw[if_pos (by omega)];omega
   match s,hs with
   |0,hs=>omega
   |s+1,hs=>refine Ov hE s (λj=>if k<L j then L j-1 else L j) (by omega) λe he=>?_;have h1:=hL e he;obtain⟨h2,h3,h4⟩:=hE e he;have n2:=hno e.2.1 h3;show(if k<L e.2.1 then L e.2.1-1 else L e.2.1)+e.2.2<=(if k<L e.1 then L e.1-1 else L e.1);split<;>split<;>omega
theorem Fe{E:Qd}{n:Nat}(hE:aek E n)(h:∃L,gG E L):∃M,gG E M/\∀i,i<n->M i<n:=by obtain⟨L,hL⟩:=h;exact Ov hE (sumTo n L) L (as7 _) hL
structure Raises(E:Qd)(n:Nat)(R:(Nat->Nat)->Nat->Nat):Prop where
 up:∀L i,L i<=R L i
 fix:∀L,(∀i,i<n->R L i=L i)->gG E L
 below:∀L M,gG E M->(∀i,i<n->L i<=M i)->∀i,i<n->R L i<=M i
 same:∀L L',(∀i,i<n->L i=L' i)->∀i,i<n->R L i=R L' i
end Sp
namespace Sp
open Go
abbrev jF:=List dI×List aA×Int×List ay×Unit
abbrev jA:=Int×List dI×List aA×Int×List ay×Int×Unit
instance:DecidableEq (List aS):=inferInstance
instance:DecidableEq ay:=inferInstance
instance:DecidableEq (List ay):=inferInstance
instance:DecidableEq (List ay×Unit):=inferInstance
instance:DecidableEq (Int×List ay×Unit):=inferInstance
instance:DecidableEq (List aA×Int×List ay×Unit):=inferInstance
instance asv:DecidableEq jF:=(inferInstance:DecidableEq (List dI×List aA×Int×List ay×Unit))
instance:DecidableEq (List ay×Int×Unit):=inferInstance
instance:DecidableEq (Int×List ay×Int×Unit):=inferInstance
instance:DecidableEq (List aA×Int×List ay×Int×Unit):=inferInstance
instance:DecidableEq (List dI×List aA×Int×List ay×Int×Unit):=inferInstance
instance asJ:DecidableEq jA:=(inferInstance:DecidableEq (Int×List dI×List aA×Int×List ay×Int×Unit))
instance:DecidableEq (List jA):=inferInstance
def nodeAt(q:List aS)(i:Nat):aS:=q.getD i (0,0,0,[],0,0,[],())
def kN(n:aS):Bool:=n.1==6||n.1==7
def yB(n:aS):Bool:=n.1==8||n.1==9
def iY(n:aS)(a:Int):Bool:=
 let kids:=decide (0<=n.2.1)&&decide (n.2.1<=a-1)&&decide (0<a)
 let two:=decide (0<=n.2.2.1)&&decide (n.2.2.1<=a-1)
 let bare:=n.2.2.2.1==[]&&(n.2.2.2.2.1==0&&(n.2.2.2.2.2.1==0&&n.2.2.2.2.2.2.1==[]))
 let flat:=n.2.1==0&&n.2.2.1==0
 let valued:=gV n.2.2.2.2.1 n.2.2.2.2.2.1 n.2.2.2.2.2.2.1
 let void:=n.2.2.2.2.1==0&&(n.2.2.2.2.2.1==0&&n.2.2.2.2.2.2.1==[])
 bif n.1==1 then flat&&bare else bif n.1==2 then flat&&void&&gq n.2.2.2.1 else
 bif n.1==3 then flat&&gq n.2.2.2.1&&valued&&!(n.2.2.2.2.1==0)else bif n.1==4 then flat&&gq n.2.2.2.1&&valued&&n.2.2.2.2.1==1 else
 bif n.1==5 then kids&&n.2.2.1==0&&bare else bif n.1==6||n.1==7 then kids&&two&&bare else
 bif n.1==8||n.1==9 then flat&&void&&eF n.2.2.2.1 else false
def refsOf(a:Int)(n:aS):Nat:=(bif (kN n||n.1==5)&&n.2.1==a then 1 else 0)+(bif kN n&&n.2.2.1==a then 1 else 0)
def kF(q:List aS)(a:Int):Nat:=(q.map (refsOf a)).sum
def jM(q:List aS)(i:Nat):Bool:=iY (nodeAt q i) i&&!(decide ((i:Int)<(q.length:Int)-1)&&!(kF q i==1))
def aW(q:List aS):Bool:=fK q.length (jM q)&&(decide (1<=(q.length:Int))&&decide ((q.length:Int)<=9))
def bQ(d:List ay)(i:Nat):ay:=d.getD i ([],[],())
def iU(d:List ay)(i:Nat):Bool:=eF (bQ d i).1&&aW (bQ d i).2.1&&!(decide (0<i)&&!Op.bytesLess (bQ d (i-1)).1 (bQ d i).1)
def dV(d:List ay):Bool:=fK d.length (iU d)&&decide ((d.length:Int)<=5)
def jb(q:List aS)(i:Nat)(out:List (Bool×Unit)):List (Bool×Unit):=
 let n:=nodeAt q i
 bif n.1==5 then out.set n.2.1.toNat (true,())else bif kN n then(out.set n.2.1.toNat ((out.getD i (false,())).1,())).set n.2.2.1.toNat ((out.getD i (false,())).1,())else out
def gX(q:List aS):Nat->List (Bool×Unit)->List (Bool×Unit)
 |0,out=>out
 |n+1,out=>gX q n (jb q n out)
def negated(q:List aS):List (Bool×Unit):=bif aW q then gX q q.length (List.replicate q.length (false,()))else[]
def dP(q:List aS)(neg:Bool):List Bytes:=(List.range (negated q).length).filterMap λi=>bif yB (nodeAt q i)&&((negated q).getD i (false,())).1==neg then some (nodeAt q i).2.2.2.1 else none
def BK:Int->List ay->Bytes->Int
 |_,[],_=>-1
 |k,x::r,s=>bif x.1==s then k else BK (k+1) r s
def aG(d:List ay)(s:Bytes):Int:=BK 0 d s
def cO(d:List ay):Qd:=
 (List.range d.length).flatMap λi=>
   ((dP (bQ d i).2.1 false).filterMap λs=>bif decide (0<=aG d s)then some (i,(aG d s).toNat,0)else none)++
   ((dP (bQ d i).2.1 true).filterMap λs=>bif decide (0<=aG d s)then some (i,(aG d s).toNat,1)else none)
open Classical in
noncomputable def aI (d:List ay):Bool:=dV d&&decide (∃L,gG (cO d) L)
def U7(x:jF):aT:=(x.1,x.2.1,x.2.2.1,())
noncomputable def FK (x:jF):Bool:=bf (U7 x)&&aI x.2.2.2.1
def BL(v:List jA)(i:Nat):jA:=v.getD i (0,[],[],0,[],0,())
def aiZ(x:jA):jF:=(x.2.1,x.2.2.1,x.2.2.2.1,x.2.2.2.2.1,())
noncomputable def anW (v:List jA) (i:Nat):Bool:=
 (decide (1<=(BL v i).1)&&decide ((BL v i).1<=1000000000))&&(!(decide (0<i)&&decide ((BL v (i-1)).1>=(BL v i).1))&&(FK (aiZ (BL v i))&&(decide (0<=(BL v i).2.2.2.2.2.1)&&decide ((BL v i).2.2.2.2.2.1<=99))))
noncomputable def ahE (v:List jA):Bool:=fK v.length (anW v)&&decide ((v.length:Int)<=6)
def ai0:Int->List jA->Int->Int
 |_,[],_=>-1
 |k,x::r,n=>bif x.1==n then k else ai0 (k+1) r n
def Gp(v:List jA)(n:Int):Int:=ai0 0 v n
def gW(r:LS)(l:List Bytes):Prop:=r.length<=1000/\∀s,(s,())∈r↔s∈l
def sS(d:List ay)(au:List (Int×Unit))(more:Int):LS->Int
 |[]=>0
 |x::r=>max (bif decide (0<=aG d x.1)then(au.getD (aG d x.1).toNat (0,())).1+more else 0) (sS d au more r)
def DW(l:LS)(s:Bytes):LS:=
 let n:=(l.takeWhile λx=>Op.bytesLess x.1 s).length
 bif decide (n<l.length)&&(l.getD n ([],())).1==s then l else l.take n++[(s,())]++l.drop n
def raised(d:List ay)(au r:List (Int×Unit)):Prop:=
 r.length=d.length/\(∀i,i<d.length->(au.getD i (0,())).1<=(r.getD i (0,())).1)/\(∀B:Int,(∀i,i<d.length->(au.getD i (0,())).1<=B)->∀i,i<d.length->(r.getD i (0,())).1<=B+5000)/\
 ((∀i,i<d.length->(r.getD i (0,())).1=(au.getD i (0,())).1)->gG (cO d) λi=>(au.getD i (0,())).1.toNat)/\
 ∀M,gG (cO d) M->(∀i,i<d.length->(au.getD i (0,())).1<=M i)->∀i,i<d.length->(r.getD i (0,())).1<=M i
def qW(d:List ay):Prop:=d.length<=1000/\∀x∈d,x.2.1.length<=1000
def aoP(x:jF):Prop:=dH (U7 x)/\qW x.2.2.2.1
end Sp
namespace Sp
open Go
def acE(x:jA):Int:=x.2.2.2.2.2.1
def amu(x:jA)(p:Int):jA:=(x.1,x.2.1,x.2.2.1,x.2.2.2.1,x.2.2.2.2.1,p,())
def aoQ(v:List jA)(n more:Int):Bool:=
 decide (0<=Gp v n)&&(decide (0<=acE (BL v (Gp v n).toNat)+more)&&decide (acE (BL v (Gp v n).toNat)+more<=99))
noncomputable def acF (v:List jA) (n more:Int):List jA×Bool:=
 bif ahE v&&aoQ v n more then(v.set (Gp v n).toNat (amu (BL v (Gp v n).toNat) (acE (BL v (Gp v n).toNat)+more)),true)else(v,false)
def unpinned(x:jA):Bool:=acE x==0
def amv(v:List jA)(n:Nat):List jA:=(v.take n).filter (λx=>!unpinned x)
noncomputable def collect (v:List jA):List jA:=bif ahE v then amv v (v.length-1)++v.drop (v.length-1)else v
end Sp
namespace Sp
open Go
theorem U8(s:Bytes):∀(d:List ay)(k:Int),(BK k d s=-1/\∀x∈d,x.1≠s)\/∃n,n<d.length/\BK k d s=k+n/\(bQ d n).1=s/\∀i,i<n->(bQ d i).1≠s
 |[],k=>.inl ⟨rfl,λx hx=>by cases hx⟩
 |x::r,k=>by
  by_cases h:x.1=s
  .right;refine⟨0,by simp,?_,h,λi hi=>by omega⟩;rw[BK,atd.2 h];simp
  .rcases U8 s r (k+1)with⟨h1,h2⟩|⟨n,h1,h2,h3,h4⟩
   .left;refine⟨by rw[BK,asZ.2 h];exact h1,λy hy=>?_⟩;rcases atw.1 hy with rfl|hy
    .exact h
    .exact h2 y hy
   .right;refine⟨n+1,by simp;omega,by rw[BK,asZ.2 h];show BK (k+1) r s=_;omega,h3,λi hi=>?_⟩;cases i with
    |zero=>exact h
    |succ i=>exact h4 i (by omega)
theorem BJ(d:List ay)(s:Bytes):(aG d s=-1/\∀x∈d,x.1≠s)\/∃n,n<d.length/\aG d s=n/\(bQ d n).1=s/\∀i,i<n->(bQ d i).1≠s:=by
 rcases U8 s d 0 with h|⟨n,h1,h2,h3⟩
 .exact .inl h
 .exact .inr ⟨n,h1,by show BK 0 d s=_;omega,h3⟩
theorem GR{d:List ay}{s:Bytes}(h:0<=aG d s):aG d s<d.length:=by rcases BJ d s with⟨h1,_⟩|⟨n,h1,h2,_⟩<;>omega
theorem Ah{d:List ay}{i j m:Nat}:(i,j,m)∈cO d↔i<d.length/\∃s,((m=0/\s∈dP (bQ d i).2.1 false)\/(m=1/\s∈dP (bQ d i).2.1 true))/\0<=aG d s/\j=(aG d s).toNat:=by
 grind [cO]
theorem jv(d:List ay):aek (cO d) d.length:=by
 rintro⟨i,j,m⟩ he;obtain⟨h1,s,h2,h3,h4⟩:=Ah.1 he;have:=GR h3
 grind
def lv(l:List (Int×Unit))(i:Nat):Int:=(l.getD i (0,())).1
theorem ahk{l:List (Int×Unit)}{i:Nat}(hi:i<l.length)(x:Int)(k:Nat):lv (l.set i (x,())) k=if k=i then x else lv l k:=by
 grind [lv]
theorem UM{l:List (Int×Unit)}{i:Nat}(hi:i<l.length):(lv l i,())∈l:=by
 grind [lv]
theorem ahj{l:List (Int×Unit)}{p:Int->Prop}(h:∀i,i<l.length->p (lv l i)):∀x∈l,p x.1:=by
 grind [List.getElem_of_mem,lv]
theorem alc{a b:List (Int×Unit)}(hl:a.length=b.length)(h:∀i,i<a.length->lv a i=lv b i):a=b:=by
 grind [List.ext_getElem,lv]
structure FY(d:List ay)(au cur:List (Int×Unit))(g:Int)(P:Nat×Nat×Nat->Prop):Prop where
 len:cur.length=d.length
 up:∀i,i<d.length->lv au i<=lv cur i
 grow:∀B,(∀i,i<d.length->lv au i<=B)->∀i,i<d.length->lv cur i<=B+g
 fix:(∀i,i<d.length->lv cur i=lv au i)->∀e,P e->lv au e.2.1+e.2.2<=lv au e.1
 below:∀M,gG (cO d) M->(∀i,i<d.length->lv au i<=M i)->∀i,i<d.length->lv cur i<=M i
theorem FY.start{d:List ay}{au:List (Int×Unit)}(h:au.length=d.length):FY d au au 0 λ_=>False:=
 ⟨h,λ_ _=>atD _,λB hB i hi=>by grind,λ_ e he=>he.elim,λ_ _ h=>h⟩
theorem FY.weaken{d:List ay}{au cur:List (Int×Unit)}{g g':Int}{P P':Nat×Nat×Nat->Prop}(h:FY d au cur g P)(hg:g<=g')(hP:∀e,P' e->P e):FY d au cur g' P':=
 ⟨h.len,h.up,λB hB i hi=>by have:=h.grow B hB i hi;omega,λhx e he=>h.fix hx e (hP e he),h.below⟩
theorem FY.still{d:List ay}{au cur:List (Int×Unit)}{g:Int}{P:Nat×Nat×Nat->Prop}(h:FY d au cur g P){i j m:Nat}(he:(i,j,m)∈cO d)(hle:lv cur j+m<=lv cur i):FY d au cur g λe=>P e\/e=(i,j,m):=by
 obtain⟨h1,h2,_⟩:=jv d _ he;refine⟨h.len,h.up,h.grow,λhx e hp=>?_,h.below⟩;rcases hp with hp|rfl
 .exact h.fix hx e hp
 grind
theorem FY.set{d:List ay}{au cur:List (Int×Unit)}{g:Int}{P:Nat×Nat×Nat->Prop}(h:FY d au cur g P){i j m:Nat}(he:(i,j,m)∈cO d)(hlt:lv cur i<lv cur j+m):FY d au (cur.set i (lv cur j+m,())) (g+m) λe=>P e\/e=(i,j,m):=by
 obtain⟨h1,h2,_⟩:=jv d _ he;have hl:=h.len;have hs:=λk=>ahk (l:=cur) (i:=i) (by omega) (lv cur j+m) k;refine⟨by simp;omega,λk hk=>?_,λB hB k hk=>?_,λhx e hp=>?_,λM hM hb k hk=>?_⟩
 .have a:=h.up k hk;grind
 .rw[hs];have a:=h.grow B hB k hk;have b:=h.grow B hB j h2;split<;>omega
 .have:=hx i h1;rw[hs,if_pos rfl]at this;have:=h.up i h1;omega
 .rw[hs];split
  .next e=>
   have a:=h.below M hM hb j h2;have b:=hM _ he
   grind
  .exact h.below M hM hb k hk
theorem FY.raised{d:List ay}{au cur:List (Int×Unit)}{g:Int}{P:Nat×Nat×Nat->Prop}(h:FY d au cur g P)(hg:g<=5000)(hP:∀e∈cO d,P e)(h0:∀i,i<d.length->0<=lv au i):raised d au cur:=by
 refine⟨h.len,h.up,λB hB i hi=>by have:=h.grow B hB i hi;grind [lv],λhx e he=>?_,h.below⟩;have a:=h.fix hx e (hP e he);obtain⟨h1,h2,_⟩:=jv d _ he
 grind [lv]
theorem acG(d:List ay)(au:List (Int×Unit))(hl:au.length=d.length):∀(E:Qd),(∀e∈E,e∈cO d)->∃cur:List (Int×Unit),cur.length=d.length/\(∀i,i<d.length->lv au i<=lv cur i/\(lv cur i=lv au i\/∃e∈E,e.1=i/\lv cur i=lv au e.2.1+e.2.2))/\∀e∈E,lv au e.2.1+e.2.2<=lv cur e.1
 |[],_=>⟨au,hl,λi hi=>⟨atD _,.inl rfl⟩,λe he=>by cases he⟩
 |e::E,hE=>by
  obtain⟨cur,h1,h2,h3⟩:=acG d au hl E λx hx=>hE x (as8 _ hx);obtain⟨g1,g2,_⟩:=jv d e (hE e as9);by_cases h:lv cur e.1<lv au e.2.1+e.2.2
  .have hs:=λk=>ahk (l:=cur) (i:=e.1) (by omega) (lv au e.2.1+e.2.2) k;refine⟨cur.set e.1 (lv au e.2.1+e.2.2,()),by simp;omega,λi hi=>?_,λx hx=>?_⟩
   · grind
   grind
  grind
theorem aiq(d:List ay)(au:List (Int×Unit))(hl:au.length=d.length)(h0:∀i,i<d.length->0<=lv au i):∃cur,raised d au cur:=by
 obtain⟨cur,h1,h2,h3⟩:=acG d au hl (cO d) λ_ h=>h;refine⟨cur,h1,λi hi=>(h2 i hi).1,λB hB i hi=>?_,λhx e he=>?_,λM hM hb i hi=>?_⟩
 .show lv cur i<=_;rcases(h2 i hi).2 with h|⟨e,he,rfl,h⟩
  .rw[h];have:=hB i hi;show(au.getD i (0,())).1<=_;omega
  .obtain⟨_,g2,g3⟩:=jv d e he
   grind [lv]
 · grind [lv]
 .show lv cur i<=_;rcases(h2 i hi).2 with h|⟨e,he,rfl,h⟩
  .rw[h];exact hb i hi
  .obtain⟨_,g2,_⟩:=jv d e he;have a:lv au e.2.1<=M e.2.1:=hb _ g2;have b:=hM e he;omega
theorem Ej{d:List ay}{au:List (Int×Unit)}{more:Int}:∀(r:LS)(B:Int),sS d au more r<=B↔0<=B/\∀x∈r,0<=aG d x.1->lv au (aG d x.1).toNat+more<=B
 |[],B=>by simp[sS]
 |x::r,B=>by
  have ih:=Ej (d:=d) (au:=au) (more:=more) r B;rw[sS];have e:∀a b:Int,max a b<=B↔a<=B/\b<=B:=λa b=>by omega
  rw[e,ih];simp only[atw,forall_eq_or_imp];by_cases h:0<=aG d x.1
  .rw[atj h];constructor
   .exactλ⟨a,b,c⟩=>⟨b,λ_=>a,c⟩
   .exactλ⟨a,b,c⟩=>⟨b h,a,c⟩
  .rw[atp h];constructor
   .exactλ⟨a,b,c⟩=>⟨b,λh'=>(h h').elim,c⟩
   .exactλ⟨a,b,c⟩=>⟨a,a,c⟩
def tZ(l:List (Int×Unit)):Nat->Int
 |0=>0
 |n+1=>tZ l n+lv l n
theorem Ym{a b:List (Int×Unit)}:∀n,(∀i,i<n->lv a i<=lv b i)->tZ a n<=tZ b n
 |0,_=>atD _
 |n+1,h=>Int.add_le_add (Ym n λi hi=>h i (by omega)) (h n (by omega))
theorem Yl{a b:List (Int×Unit)}:∀n,(∀i,i<n->lv a i<=lv b i)->(∃i,i<n/\lv a i<lv b i)->tZ a n<tZ b n
 |0,_,⟨i,hi,_⟩=>by omega
 |n+1,h,⟨i,hi,hl⟩=>by
  have h1:=Ym n λj hj=>h j (aun hj);show tZ a n+lv a n<tZ b n+lv b n;by_cases e:i=n
  .subst e;omega
  .have:=Yl n (λj hj=>h j (aun hj)) ⟨i,by omega,hl⟩
   grind
theorem MI{a:List (Int×Unit)}{b:Nat}:∀n:Nat,(∀i,i<n->lv a i<=b)->tZ a n<=(n*b:Nat)
 |0,_=>by simp[tZ]
 |n+1,h=>by
  have h1:=MI n λi hi=>h i (aun hi)
  grind [tZ]
theorem TS{a:List (Int×Unit)}:∀n:Nat,(∀i,i<n->0<=lv a i)->0<=tZ a n
 |0,_=>atD _
 |n+1,h=>Int.add_nonneg (TS n λi hi=>h i (by omega)) (h n (by omega))
theorem jl{d:List ay}:aI d=true↔dV d=true/\∃L,gG (cO d) L:=by unfold aI;simp
theorem Pj{d:List ay}(h:dV d=true):d.length<=5:=by
 grind [dV]
end Sp
namespace Sp
abbrev Ext(ι α:Type):=ι->α->Bool
structure Sys(ι α:Type) where
 T:ι->Ext ι α->α->Prop
 pos:ι->ι->Prop
 neg:ι->ι->Prop
 mono:∀i X Y,(∀j,pos i j->∀x,X j x=true->Y j x=true)->(∀j,neg i j->∀x,X j x=Y j x)->∀x,T i X x->T i Y x
def af6{ι α:Type}(S:Sys ι α)(N:ι->Prop)(au:ι->Nat):Prop:=∀i j,N i->N j->(S.pos i j->au j<=au i)/\(S.neg i j->au j<au i)
structure Eval{ι α:Type}(S:Sys ι α)(N:ι->Prop)(au:ι->Nat)(X:Ext ι α):Prop where
 fix:∀i,N i->∀x,X i x=true↔S.T i X x
 least:∀k(Y:Ext ι α),(∀i,¬(N i/\au i=k)->∀x,Y i x=X i x)->(∀i,N i->au i=k->∀x,S.T i Y x->Y i x=true)->∀i,N i->au i=k->∀x,X i x=true->Y i x=true
open Classical in
theorem ai1{ι α:Type}{P:ι->Prop}{A B:Ext ι α}:∃Y:Ext ι α,(∀i x,Y i x=true↔A i x=true/\(P i->B i x=true))/\∀i,¬P i->∀x,Y i x=A i x:=by
 have h:∀i x,decide (A i x=true/\(P i->B i x=true))=true↔A i x=true/\(P i->B i x=true):=λi x=>decide_eq_true_iff;refine⟨λi x=>decide (A i x=true/\(P i->B i x=true)),h,λi hi x=>?_⟩
 simp_all
theorem air{ι α:Type}{S1 S2:Sys ι α}{N1 N2 U:ι->Prop}{l1 l2:ι->Nat}{X1 X2:Ext ι α}
 (h1:Eval S1 N1 l1 X1) (h2:Eval S2 N2 l2 X2) (s1:af6 S1 N1 l1) (s2:af6 S2 N2 l2) (u1:∀i,U i->N1 i) (u2:∀i,U i->N2 i)
 (hT:∀i,U i->∀X x,S1.T i X x↔S2.T i X x) (hp:∀i,U i->∀j,S2.pos i j->S1.pos i j) (hn:∀i,U i->∀j,S2.neg i j->S1.neg i j)
 (hc:∀i,U i->∀j,S1.pos i j\/S1.neg i j->U j\/∀x,X1 j x=X2 j x):∀i,U i->∀x,X1 i x=X2 i x:=by
 have key:∀k,∀i,U i->l1 i=k->∀x,X1 i x=X2 i x:=by
  intro k
  induction k using Nat.strongRecOn with
  |_ k ih=>
   have below:∀j,U j->l1 j<k->∀x,X1 j x=X2 j x:=λj hj hl=>ih (l1 j) hl j hj rfl;have ap3:∀i,U i->l1 i=k->∀x,X1 i x=true->X2 i x=true:=by
    obtain⟨Y,hY,WY⟩:=ai1 (P:=λi=>U i/\l1 i=k) (A:=X1) (B:=X2);have:=h1.least k Y (λi hi=>WY i λh=>hi ⟨u1 i h.1,h.2⟩) λi hN hl x hx=>by
     have ahF:∀j,S1.neg i j->∀x,Y j x=X1 j x:=λj hj=>WY j λh=>by have:=(s1 i j hN (u1 j h.1)).2 hj;omega
     refine(hY i x).2 ⟨(h1.fix i hN x).2 (S1.mono i Y X1 (λj _ y hy=>((hY j y).1 hy).1) ahF x hx),λhU=>?_⟩;refine(h2.fix i (u2 i hU.1) x).2 ((hT i hU.1 X2 x).1 (S1.mono i Y X2 (λj hj y hy=>?_) (λj hj y=>?_) x hx))
     .rcases hc i hU.1 j (.inl hj)with h|h
      .have hl2:=(s1 i j hN (u1 j h)).1 hj
       grind
      grind
     .rw[ahF j hj];rcases hc i hU.1 j (.inr hj)with h|h
      .exact below j h (by have:=(s1 i j hN (u1 j h)).2 hj;omega) y
      .exact h y
    grind
   have ap4:∀m,∀i,U i->l1 i=k->l2 i=m->∀x,X2 i x=true->X1 i x=true:=by
    intro m
    induction m using Nat.strongRecOn with
    |_ m ih2=>
     obtain⟨Y,hY,WY⟩:=ai1 (P:=λi=>U i/\l1 i=k/\l2 i=m) (A:=X2) (B:=X1);have:=h2.least m Y (λi hi=>WY i λh=>hi ⟨u2 i h.1,h.2.2⟩) λi hN hl x hx=>by
      have ahF:∀j,S2.neg i j->∀x,Y j x=X2 j x:=λj hj=>WY j λh=>by have:=(s2 i j hN (u2 j h.1)).2 hj;omega
      refine(hY i x).2 ⟨(h2.fix i hN x).2 (S2.mono i Y X2 (λj _ y hy=>((hY j y).1 hy).1) ahF x hx),λhU=>?_⟩;refine(h1.fix i (u1 i hU.1) x).2 ((hT i hU.1 X1 x).2 (S2.mono i Y X1 (λj hj y hy=>?_) (λj hj y=>?_) x hx))
      .have hj1:=hp i hU.1 j hj;rcases hc i hU.1 j (.inl hj1)with h|h
       .have g1:=(s1 i j (u1 i hU.1) (u1 j h)).1 hj1;have g2:=(s2 i j hN (u2 j h)).1 hj
        grind
       grind
      .rw[ahF j hj];have hj1:=hn i hU.1 j hj;rcases hc i hU.1 j (.inr hj1)with h|h
       .exact(below j h (by have:=(s1 i j (u1 i hU.1) (u1 j h)).2 hj1;omega) y).symm
       grind
     grind
   exactλi hU hl x=>atu.2 ⟨ap3 i hU hl x,ap4 (l2 i) i hU hl rfl x⟩
 grind
end Sp
namespace Sp
open Go
abbrev bK:=Bytes×List (Int×Unit)×Unit
abbrev BX:=Ext Bytes Int
def bU:List dK->Bytes->Uz
 |[],_=>(0,0,[],())
 |a::r,s=>bif a.1==s then(a.2.1,a.2.2.1,a.2.2.2.1,())else bU r s
def dZ:List bK->Bytes->List (Int×Unit)
 |[],_=>[]
 |x::r,s=>bif x.1==s then x.2.1 else dZ r s
def jh(l:List (Int×Unit))(x:Int):Bool:=l.any λy=>y.1==x
def aY(r:List bK):BX:=λs x=>jh (dZ r s) x
theorem En{l:List (Int×Unit)}{x:Int}:jh l x=true↔(x,())∈l:=by
 grind [jh]
def jw(n:aS)(f:aA)(X:BX):Bool:=
 bif n.1==2 then !((bU f.2.2.2.2.1 n.2.2.2.1).1==0)else
 bif n.1==3 then decide (bU f.2.2.2.2.1 n.2.2.2.1=(n.2.2.2.2.1,n.2.2.2.2.2.1,n.2.2.2.2.2.2.1,()))else
 bif n.1==4 then(bU f.2.2.2.2.1 n.2.2.2.1).1==1&&decide ((bU f.2.2.2.2.1 n.2.2.2.1).2.1<n.2.2.2.2.2.1)else
 bif n.1==8 then X n.2.2.2.1 f.1 else
 bif n.1==9 then !(f.2.2.2.1==0)&&X n.2.2.2.1 f.2.2.2.1 else true
def val(q:List aS)(f:aA)(X:BX)(a:Nat):Bool:=
 if(nodeAt q a).1=5 then(if h:(nodeAt q a).2.1.toNat<a then !val q f X (nodeAt q a).2.1.toNat else true)
 else if(nodeAt q a).1=6 then(if h:(nodeAt q a).2.1.toNat<a/\(nodeAt q a).2.2.1.toNat<a then val q f X (nodeAt q a).2.1.toNat&&val q f X (nodeAt q a).2.2.1.toNat else true)
 else if(nodeAt q a).1=7 then(if h:(nodeAt q a).2.1.toNat<a/\(nodeAt q a).2.2.1.toNat<a then val q f X (nodeAt q a).2.1.toNat||val q f X (nodeAt q a).2.2.1.toNat else true)
 else jw (nodeAt q a) f X
termination_by a
decreasing_by all_goals omega
theorem Oi(q:List aS)(f:aA)(X:BX)(a:Nat):val q f X a=
 if(nodeAt q a).1=5 then(if h:(nodeAt q a).2.1.toNat<a then !val q f X (nodeAt q a).2.1.toNat else true)
 else if(nodeAt q a).1=6 then(if h:(nodeAt q a).2.1.toNat<a/\(nodeAt q a).2.2.1.toNat<a then val q f X (nodeAt q a).2.1.toNat&&val q f X (nodeAt q a).2.2.1.toNat else true)
 else if(nodeAt q a).1=7 then(if h:(nodeAt q a).2.1.toNat<a/\(nodeAt q a).2.2.1.toNat<a then val q f X (nodeAt q a).2.1.toNat||val q f X (nodeAt q a).2.2.1.toNat else true)
 else jw (nodeAt q a) f X:=by rw[val]
def kC(q:List aS)(f:aA)(X:BX):Bool:=aW q&&val q f X (q.length-1)
def sel(fs:List aA)(q:List aS)(X:BX):List (Int×Unit):=(fs.filter λf=>kC q f X).map λf=>(f.1,())
def xP(q:List aS)(i:Nat):Bool:=((negated q).getD i (false,())).1
theorem JL{q:List aS}(h:aW q=true){i:Nat}(hi:i<q.length):iY (nodeAt q i) i=true/\((i:Int)<(q.length:Int)-1->kF q i=1):=by
 unfold aW at h;have h1:jM q i=true:=by
  grind [fK]
 grind [jM]
theorem yK{q:List aS}(h:aW q=true):1<=q.length/\q.length<=9:=by
 grind [aW]
theorem Xz{n:aS}{a:Nat}(h:iY n a=true)(hn:n.1=5\/n.1=6\/n.1=7):0<=n.2.1/\n.2.1.toNat<a:=by
 grind [iY]
theorem I5{n:aS}{a:Nat}(h:iY n a=true)(hn:n.1=6\/n.1=7):0<=n.2.2.1/\n.2.2.1.toNat<a:=by
 grind [iY]
theorem ai2{α:Type}(g:α->Nat):∀(l:List α),(l.map g).sum=1->∀i j,i<l.length->j<l.length->i≠j->∀d,1<=g (l.getD i d)->g (l.getD j d)=0
 |[],_,i,_,hi,_,_,_,_=>by simp at hi
 |x::r,h,i,j,hi,hj,hne,d,hg=>by
  rw[att,List.sum_cons]at h;have mem:∀(l:List α) k,k<l.length->g (l.getD k d)<=(l.map g).sum:=by
   intro l
   induction l with
   |nil=>grind
   |cons y t ih=>
    grind
  cases i with
  |zero=>
   cases j with
   |zero=>exact(hne rfl).elim
   |succ j=>
    have h1:1<=g x:=hg;have:=mem r j (by simpa using hj);show g (r.getD j d)=0;omega
  |succ i=>
   have h1:1<=g (r.getD i d):=hg;have h2:=mem r i (by simpa using hi);cases j with
   |zero=>show g x=0;omega
   |succ j=>exact ai2 g r (by omega) i j (by simpa using hi) (by simpa using hj) (by omega) d hg
theorem FM{q:List aS}{p:Nat}:∀(n:Nat)(out:List (Bool×Unit)),(∀i,i<n->((nodeAt q i).1=5\/kN (nodeAt q i)=true->(nodeAt q i).2.1.toNat≠p)/\(kN (nodeAt q i)=true->(nodeAt q i).2.2.1.toNat≠p))->
 (gX q n out).getD p (false,())=out.getD p (false,())
 |0,_,_=>rfl
 |n+1,out,h=>by
  have ih:=FM n (jb q n out) λi hi=>h i (by omega);show(gX q n (jb q n out)).getD p (false,())=_;rw[ih];have hs:∀(l:List (Bool×Unit)) k x,k≠p->(l.set k x).getD p (false,())=l.getD p (false,()):=λl k x hk=>by rw[atn,aui hk,← atn]
  obtain⟨h1,h2⟩:=h n (by omega);unfold jb;dsimp only;cases e5:((nodeAt q n).1==5)with
  |true=>exact hs _ _ _ (h1 (.inl (atd.1 e5)))
  |false=>
   cases e2:kN (nodeAt q n)with
   |true=>exact(hs _ _ _ (h2 e2)).trans (hs _ _ _ (h1 (.inr e2)))
   |false=>rfl
theorem CZ(q:List aS):∀(n:Nat)(out:List (Bool×Unit)),(gX q n out).length=out.length
 |0,_=>rfl
 |n+1,out=>by show(gX q n (jb q n out)).length=_;rw[CZ q n];unfold jb;dsimp only;cases (nodeAt q n).1==5<;>cases kN (nodeAt q n)<;>simp
theorem wL{n:aS}:kN n=true↔n.1=6\/n.1=7:=by
 grind [kN]
theorem QC(q:List aS):∀(k m:Nat)(out:List (Bool×Unit)),∃mid:List (Bool×Unit),mid.length=out.length/\gX q (m+k) out=gX q m mid
 |0,_,out=>⟨out,rfl,rfl⟩
 |k+1,m,out=>by
  obtain⟨mid,h1,h2⟩:=QC q k m (jb q (m+k) out);have hl:(jb q (m+k) out).length=out.length:=by
   grind [jb]
  exact⟨mid,h1.trans hl,h2⟩
theorem Oj{q:List aS}(h:aW q=true){i:Nat}(hi:i<q.length):((nodeAt q i).1=5\/kN (nodeAt q i)=true->0<=(nodeAt q i).2.1/\(nodeAt q i).2.1.toNat<i)/\(kN (nodeAt q i)=true->0<=(nodeAt q i).2.2.1/\(nodeAt q i).2.2.1.toNat<i):=by
 have h1:=(JL h hi).1;refine⟨λh2=>?_,λh2=>I5 h1 (wL.1 h2)⟩;rcases h2 with h2|h2
 .exact Xz h1 (.inl h2)
 .exact Xz h1 (.inr (wL.1 h2))
theorem akf{q:List aS}(h:aW q=true){i j p:Nat}(hi:i<q.length)(hj:j<q.length)(hne:i≠j)(hp:p<i)(hr:1<=refsOf p (nodeAt q i)):refsOf p (nodeAt q j)=0:=
 ai2 (refsOf p) q ((JL h (by omega)).2 (by omega)) i j hi hj hne _ hr
theorem ais{p:Nat}{n:aS}(h:refsOf p n=0)(h0:((n.1=5\/kN n=true)->0<=n.2.1)/\(kN n=true->0<=n.2.2.1)):(n.1=5\/kN n=true->n.2.1.toNat≠p)/\(kN n=true->n.2.2.1.toNat≠p):=by
 grind [refsOf]
theorem XB{p:Nat}{n:aS}(h:n.1=5\/kN n=true)(h0:0<=n.2.1)(e:n.2.1.toNat=p):1<=refsOf p n:=by
 grind [refsOf]
theorem ahG{p:Nat}{n:aS}(h:kN n=true)(h0:0<=n.2.2.1)(e:n.2.2.1.toNat=p):1<=refsOf p n:=by
 grind [refsOf]
theorem ZE{l:List (Bool×Unit)}{k p:Nat}{x:Bool×Unit}(hk:k<l.length):(l.set k x).getD p (false,())=if k=p then x else l.getD p (false,()):=by
 grind
theorem akg{q:List aS}(h:aW q=true){i:Nat}(hi:i<q.length):
 ((nodeAt q i).1=5->xP q (nodeAt q i).2.1.toNat=true)/\(kN (nodeAt q i)=true->xP q (nodeAt q i).2.1.toNat=xP q i/\xP q (nodeAt q i).2.2.1.toNat=xP q i):=by
 have hn:negated q=gX q q.length (List.replicate q.length (false,())):=by grind [negated]
 obtain⟨mid,hm1,hm2⟩:=QC q (q.length-(i+1)) (i+1) (List.replicate q.length (false,()));rw[show i+1+(q.length-(i+1))=q.length by omega,← hn]at hm2;have hml:mid.length=q.length:=by rw[hm1];simp
 have hm3:negated q=gX q i (jb q i mid):=hm2;obtain⟨k1,k2⟩:=Oj h hi;have keep:∀p,p<i->1<=refsOf p (nodeAt q i)->xP q p=((jb q i mid).getD p (false,())).1:=λp hp hr=>by
  unfold xP;rw[hm3,FM i];intro j hj;have hjl:j<q.length:=by omega
  obtain⟨g1,g2⟩:=Oj h hjl
  grind [ais,akf]
 have self:xP q i=(mid.getD i (false,())).1:=by
  unfold xP;rw[hm2,FM (i+1)];intro j hj;obtain⟨g1,g2⟩:=Oj h (show j<q.length by omega)
  grind
 refine⟨λh5=>?_,λh2=>?_⟩
 · grind [XB,jb]
 .obtain⟨a,b⟩:=k1 (.inr h2);obtain⟨a',b'⟩:=k2 h2;have h5:((nodeAt q i).1==5)=false:=by rcases wL.1 h2 with e|e<;>rw[e]<;>rfl
  rw[keep _ b (XB (.inr h2) a rfl),keep _ b' (ahG h2 a' rfl),self];unfold jb;dsimp only;rw[h5,h2];show(((mid.set _ ((mid.getD i (false,())).1,())).set _ ((mid.getD i (false,())).1,())).getD _ (false,())).1=_/\(((mid.set _ ((mid.getD i (false,())).1,())).set _ ((mid.getD i (false,())).1,())).getD _ (false,())).1=_;rw[ZE (by grind),ZE (by omega),ZE (by grind),if_pos rfl,if_pos rfl]
  grind
theorem akh{q:List aS}(h:aW q=true):xP q (q.length-1)=false:=by
 have hn:negated q=gX q q.length (List.replicate q.length (false,())):=by grind [negated]
 unfold xP;rw[hn,FM q.length]
 · grind
 grind [Oj]
theorem amw{q:List aS}(h:aW q=true){i:Nat}(hi:i<q.length)(hd:yB (nodeAt q i)=true):(nodeAt q i).2.2.2.1∈dP q (xP q i):=by
 grind [negated,CZ,dP,xP]
theorem amx{q:List aS}{f:aA}{X Y:BX}(h:aW q=true)(hp:∀s∈dP q false,∀x,X s x=true->Y s x=true)(hn:∀s∈dP q true,∀x,X s x=Y s x):
 ∀a,a<q.length->(xP q a=false->val q f X a=true->val q f Y a=true)/\(xP q a=true->val q f X a=val q f Y a):=by
 intro a
 induction a using Nat.strongRecOn with
 |_ a ih=>
  intro ha;obtain⟨n1,n2⟩:=akg h ha;rw[Oi q f X a,Oi q f Y a]
  grind [wL,amw,yB,jw]
theorem U9{q:List aS}{f:aA}{X Y:BX}(hp:∀s∈dP q false,∀x,X s x=true->Y s x=true)(hn:∀s∈dP q true,∀x,X s x=Y s x)(hm:kC q f X=true):kC q f Y=true:=by unfold kC at hm ⊢;rw[as1]at hm ⊢;have hl:=yK hm.1;exact⟨hm.1,(amx hm.1 hp hn _ (by omega)).1 (akh hm.1) hm.2⟩
theorem ael{fs:List aA}{q:List aS}{X:BX}{x:Int}:(x,())∈sel fs q X↔∃f∈fs,f.1=x/\kC q f X=true:=by
 unfold sel;constructor
 · grind
 .rintro⟨f,hf,rfl,hm⟩
  grind
theorem alz{fs:List aA}{q:List aS}{X Y:BX}(h:∀b,∀s∈dP q b,∀x,X s x=Y s x):sel fs q X=sel fs q Y:=by
 unfold sel;congr 1;apply List.filter_congr;intro f _;rw[atu]
 grind [U9]
def LX(fs:List aA)(d:List ay):Sys Bytes Int where
 T:=λs X x=>∃i,i<d.length/\(bQ d i).1=s/\(x,())∈sel fs (bQ d i).2.1 X
 pos:=λs t=>∃i,i<d.length/\(bQ d i).1=s/\t∈dP (bQ d i).2.1 false
 neg:=λs t=>∃i,i<d.length/\(bQ d i).1=s/\t∈dP (bQ d i).2.1 true
 mono:=λs X Y hp hn x⟨i,hi,e,hx⟩=>⟨i,hi,e,by obtain⟨f,hf,e2,hm⟩:=ael.1 hx;exact ael.2 ⟨f,hf,e2,U9 (λt ht=>hp t ⟨i,hi,e,ht⟩) (λt ht=>hn t ⟨i,hi,e,ht⟩) hm⟩⟩
end Sp
namespace Go.Fw
open Go
theorem TU{n m:Nat}{left:Int}(h:0<=Sp.aH n left):Sp.aH m (Sp.aH n left)=Sp.aH (n+m) left:=by
 grind [Sp.aH]
theorem Po{n m:Nat}{left:Int}(h:Sp.aH n left<0):Sp.aH (n+m) left=-1:=by
 grind [Sp.aH]
theorem ae4{n:Nat}{left:Int}(h:0<=left):Sp.aH n left<=left:=by grind [Sp.aH]
theorem TT{n:Nat}{left:Int}(h:¬left-(n:Int)<0):Sp.aH n left=left-n:=by grind [Sp.aH]
def FN{α:Type}(f:α->Nat):List α->Nat
 |[]=>0
 |x::r=>f x+FN f r
theorem jd{α:Type}(f:α->Nat):∀a:List α,Sp.fB f a=a.length+FN f a
 |[]=>rfl
 |x::r=>by simp only[Sp.fB,FN,jd f r,asY];omega
theorem afg{α:Type}(f:α->Nat)(d:α):∀(a:List α)(n:Nat),n<a.length->FN f (a.take (n+1))=FN f (a.take n)+f (a.getD n d)
 |[],n,h=>by simp at h
 |x::r,0,_=>by simp[FN]
 |x::r,n+1,h=>by have:=afg f d r n (by simpa using h);simp only[auj,FN,auB]at this ⊢;omega
theorem ai3{α:Type}(f:α->Nat):∀(a:List α)(n:Nat),FN f (a.take n)<=FN f a
 |[],n=>by simp
 |x::r,0=>by simp[FN]
 |x::r,n+1=>by simp only[auj,FN];have:=ai3 f r n;omega
theorem jK{α:Type}(f:α->Nat):∀(a:List α)(x:α),x∈a->f x<=Sp.fB f a
 |y::r,x,h=>by
  rw[Sp.fB];rcases atw.1 h with rfl|h
  .omega
  .have:=jK f r x h;omega
 |[],x,h=>by cases h
theorem Fg{α β:Type}(f:α->Nat)(d:α)(a:List α)(left:Int)(t:β)(hlen:a.length<=9223372036854775807)(h0:0<=left)(h1:left<=1048576){K:Int×Unit->Prop}(hK:K (Sp.aH (Sp.fB f a) left,())):
 bif decide (IntKind.i64.wrap (left-(a.length:Int))<(0:Int))then K ((-1:Int),())
 else∃(I:(Int×Int×Unit)×Unit->Prop),∃(μ:(Int×Int×Unit)×Unit->Nat),I ((IntKind.i64.wrap (left-(a.length:Int)),(0:Int),()),())/\∀(y:(Int×Int×Unit)×Unit),I y->
  bif decide (y.fst.snd.fst<(a.length:Int))then
   ((0:Int)<=y.fst.snd.fst/\y.fst.snd.fst<(a.length:Int))/\((0:Int)<=y.fst.fst/\y.fst.fst<=(1048576:Int))/\
     (bif decide (Sp.aH (f (a.getD (Int.toNat y.fst.snd.fst) d)) y.fst.fst<(0:Int))then K ((-1:Int),())
     else t=t/\I ((Sp.aH (f (a.getD (Int.toNat y.fst.snd.fst) d)) y.fst.fst,IntKind.i64.wrap (y.fst.snd.fst+(1:Int)),()),())/\
      μ ((Sp.aH (f (a.getD (Int.toNat y.fst.snd.fst) d)) y.fst.fst,IntKind.i64.wrap (y.fst.snd.fst+(1:Int)),()),())<μ y)
  else K (y.fst.fst,()):=by
 rw[eu _ (by omega)];refine af (λh=>?_) λh=>?_<;>simp only[ate,atc]at h
 · grind [jd,Sp.aH]
 .refine⟨λy=>∃n:Nat,y.1.2.1=n/\n<=a.length/\0<=y.1.1/\y.1.1=Sp.aH (a.length+FN f (a.take n)) left,λy=>((a.length:Int)-y.1.2.1).toNat,⟨0,rfl,by omega,by grind,?_⟩,?_⟩
  · grind [FN,TT]
  rintro⟨⟨l,_,⟨⟩⟩,⟨⟩⟩ ⟨n,rfl,hn,hl,hJ⟩;dsimp only at hl hJ ⊢;have hle:l<=left:=by simp_all [ae4]
  refine af (λh=>?_) λh=>?_<;>simp only[ate,atc]at h
  .have key:Sp.aH (f (a.getD n d)) l=Sp.aH (a.length+FN f (a.take (n+1))) left:=by
    grind [TU,afg]
   rw[ata,eu _ (by omega)];refine⟨⟨by omega,by omega⟩,⟨hl,by omega⟩,af (λh2=>?_) λh2=>?_⟩<;>simp only[ate,atc]at h2
   · grind [ai3,Sp.aH,jd]
   grind
  grind [jd]
theorem toS_vc{α β:Type}(pre:α->Prop)(d:α)(a:List α)(t:β)(hbig:a.length<=4294967296)(hpre:∀x∈a,pre x){K:List α×Unit->Prop}(hK:K (a,())):
 ((0:Int)<=(a.length:Int)/\(a.length:Int)<=(a.length:Int)/\(a.length:Int)<=(big:Int))/\
 ∃(I:(Int×Unit)×List α×Unit->Prop),∃(μ:(Int×Unit)×List α×Unit->Nat),I (((0:Int),()),List.replicate (a.length:Int).toNat d,())/\∀(y:(Int×Unit)×List α×Unit),I y->
  bif decide (y.fst.fst<(a.length:Int))then
   ((0:Int)<=y.fst.fst/\y.fst.fst<(a.length:Int))/\pre (a.getD (Int.toNat y.fst.fst) d)/\((0:Int)<=y.fst.fst/\y.fst.fst<(List.length y.snd.fst:Int))/\Int.toNat y.fst.fst<List.length y.snd.fst/\
     t=t/\I ((IntKind.i64.wrap (y.fst.fst+(1:Int)),()),List.set y.snd.fst (Int.toNat y.fst.fst) (a.getD (Int.toNat y.fst.fst) d),())/\
      μ ((IntKind.i64.wrap (y.fst.fst+(1:Int)),()),List.set y.snd.fst (Int.toNat y.fst.fst) (a.getD (Int.toNat y.fst.fst) d),())<μ y
  else K (y.snd.fst,()):=by
 refine⟨⟨by omega,by omega,by rw[dm];omega⟩,λy=>∃n:Nat,y.1.1=n/\n<=a.length/\y.2.1=a.take n++List.replicate (a.length-n) d,λy=>((a.length:Int)-y.1.1).toNat,⟨0,rfl,by omega,by simp⟩,?_⟩;rintro⟨⟨_,⟨⟩⟩,l,⟨⟩⟩ ⟨n,rfl,hn,rfl⟩;dsimp only;refine af (λh=>?_) λh=>?_<;>simp only[ate,atc]at h
 .have hlt:n<a.length:=by omega
  have hl:(a.take n++List.replicate (a.length-n) d).length=a.length:=by grind
  rw[eu _ (by omega),ata,hl];refine⟨⟨by omega,by omega⟩,hpre _ (getD_mem hlt),⟨by omega,by omega⟩,hlt,rfl,⟨n+1,by simp,by omega,?_⟩,by omega⟩;rw[show a.length-n=a.length-(n+1)+1 by omega,List.replicate_succ,auo _ _ (by grind),atv,auC hn,auT,au3,
     atO hlt,atz,atn,as5 hlt]
  rfl
 .have hge:n=a.length:=by omega
  simp_all
end Go.Fw
namespace Go.Fw
open Go
theorem bY{p:Prop}[Decidable p]{A B:Prop}(h:p)(a:A):cond (decide p) A B:=by grind
theorem bV{p:Prop}[Decidable p]{A B:Prop}(h:¬p)(b:B):cond (decide p) A B:=by grind
theorem eP{B:((Int×Unit)×Unit->Prop)->((Int×Unit)×Unit->Nat)->(Int×Unit)×Unit->Prop}(len:Nat)(hlen:len<=9223372036854775807)(J:Nat->Prop)(h0:J 0)
 (hstep:∀I μ(n:Nat),n<len->J n->(J (n+1)->I ((IntKind.i64.wrap ((n:Int)+1),()),())/\μ ((IntKind.i64.wrap ((n:Int)+1),()),())<μ (((n:Int),()),()))->B I μ (((n:Int),()),()))
 (hend:∀I μ,J len->B I μ (((len:Int),()),())):∃I,∃μ,I (((0:Int),()),())/\∀y,I y->B I μ y:=by
 refine⟨λy=>∃n:Nat,y.1.1=n/\n<=len/\J n,λy=>((len:Int)-y.1.1).toNat,⟨0,rfl,atl _,h0⟩,?_⟩
 grind [eu]
theorem eH{Y S:Type}(mk:Int->S->Y)(idx:Y->Int)(hidx:∀i s,idx (mk i s)=i){B:(Y->Prop)->(Y->Nat)->Y->Prop}(len:Nat)(hlen:len<=9223372036854775807)(J:Nat->S->Prop){s0:S}(h0:J 0 s0)
 (hstep:∀I μ(n:Nat)(s:S),n<len->J n s->(∀s',J (n+1) s'->I (mk (IntKind.i64.wrap ((n:Int)+1)) s')/\μ (mk (IntKind.i64.wrap ((n:Int)+1)) s')<μ (mk n s))->B I μ (mk n s))
 (hend:∀I μ s,J len s->B I μ (mk len s)):∃I,∃μ,I (mk 0 s0)/\∀y,I y->B I μ y:=by
 refine⟨λy=>∃(n:Nat)(s:S),y=mk n s/\n<=len/\J n s,λy=>((len:Int)-idx y).toNat,⟨0,s0,rfl,atl _,h0⟩,?_⟩
 grind [eu]
theorem yA{len:Nat}{f:Nat->Bool}{n:Nat}(hn:n<len)(h:f n=false):Sp.fK len f=false:=by
 grind [Sp.fK]
theorem lq{len:Nat}{f:Nat->Bool}(h:∀i,i<len->f i=true):Sp.fK len f=true:=by
 grind [Sp.fK]
theorem MX{len:Nat}{f:Nat->Bool}:Sp.fK len f=true↔∀i,i<len->f i=true:=by
 grind [Sp.fK]
theorem dM{n:Nat}{f:Nat->Bool}(h:∀i,i<n->f i=true)(hn:f n=true):∀i,i<n+1->f i=true:=λi hi=>by
 grind
theorem iR{b:Bool}(h:(!b)=true):b=false:=by cases b<;>first|rfl|cases h
theorem dY{b:Bool}(h:(!b)=false):b=true:=by cases b<;>first|rfl|cases h
theorem iK{p:Prop}[Decidable p](h:decide p=true):p:=at7 h
theorem iW{p:Prop}[Decidable p](h:decide p=false):¬p:=of_decide_eq_false h
theorem rZ{n:Nat}(h:0<n)(hn:n<=9223372036854775807):IntKind.i64.wrap ((n:Int)-1)=((n-1:Nat):Int):=by grind [eu]
theorem ahH{α:Type}{d:α}{a b:List α}(hl:a.length=b.length)(h:∀i,i<a.length->a.getD i d=b.getD i d):a=b:=by
 grind [List.ext_getElem]
theorem aiV{α β:Type}(e:α->α->Bool)(he:∀x y,e x y=false↔x=y)(d:α)(a b:List α)(t:β)(hlen:a.length<=9223372036854775807)(hl:a.length=b.length){K:Bool×Unit->Prop}(hF:a≠b->K (false,()))(hT:a=b->K (true,())):
 ∃(I:(Int×Unit)×Unit->Prop),∃(μ:(Int×Unit)×Unit->Nat),I (((0:Int),()),())/\∀(y:(Int×Unit)×Unit),I y->
  bif decide (y.fst.fst<(a.length:Int))then
   ((0:Int)<=y.fst.fst/\y.fst.fst<(a.length:Int))/\((0:Int)<=y.fst.fst/\y.fst.fst<(b.length:Int))/\
     (bif e (a.getD (Int.toNat y.fst.fst) d) (b.getD (Int.toNat y.fst.fst) d)then K (false,())
     else t=t/\I ((IntKind.i64.wrap (y.fst.fst+(1:Int)),()),())/\μ ((IntKind.i64.wrap (y.fst.fst+(1:Int)),()),())<μ y)
  else K (true,()):=by
 refine eP a.length hlen (λn=>∀i,i<n->a.getD i d=b.getD i d) (λi hi=>by omega) (λI μ n hn hJ next=>?_) λI μ hJ=>(by dsimp only;exact bV (by omega) (hT (ahH hl hJ)))
 grind
end Go.Fw
namespace Sp
open Go Go.Fw
theorem TM{name:Bytes}:∀(s:List dI)(n:Nat),n<s.length->(∀i,i<n->(s.getD i ([],0,())).1≠name)->(s.getD n ([],0,())).1=name->kindOf s name=(s.getD n ([],0,())).2.1
 |[],n,h,_,_=>by simp at h
 |f::r,0,_,_,he=>by
  grind [kindOf]
 |f::r,n+1,h,hne,he=>by have h0:f.1≠name:=hne 0 (by omega);show(bif decide (f.1=name)then f.2.1 else kindOf r name)=_;rw[atp h0];exact TM r n (by simpa using h) (λi hi=>hne (i+1) (by omega)) he
theorem MG{name:Bytes}:∀(s:List dI),(∀i,i<s.length->(s.getD i ([],0,())).1≠name)->kindOf s name=0
 |[],_=>rfl
 |f::r,hne=>by have h0:f.1≠name:=hne 0 (by simp);show(bif decide (f.1=name)then f.2.1 else kindOf r name)=_;rw[atp h0];exact MG r λi hi=>hne (i+1) (by simp;omega)
theorem Va{id:Int}:∀(s:List aA)(k:Int)(n:Nat),n<s.length->(∀i,i<n->(fileAt s i).1≠id)->(fileAt s n).1=id->nG k s id=k+n
 |[],_,n,h,_,_=>by simp at h
 |f::r,k,0,_,_,he=>by
  have he:f.1=id:=he
  grind [nG]
 |f::r,k,n+1,h,hne,he=>by have h0:f.1≠id:=hne 0 (by omega);show(bif decide (f.1=id)then k else nG (k+1) r id)=_;rw[atp h0];show nG (k+1) r id=_;rw[Va r (k+1) n (by simpa using h) (λi hi=>hne (i+1) (by omega)) he];omega
theorem Ox{id:Int}:∀(s:List aA)(k:Int),(∀i,i<s.length->(fileAt s i).1≠id)->nG k s id=-1
 |[],_,_=>rfl
 |f::r,k,hne=>by have h0:f.1≠id:=hne 0 (by simp);show(bif decide (f.1=id)then k else nG (k+1) r id)=_;rw[atp h0];exact Ox r (k+1) λi hi=>hne (i+1) (by simp;omega)
theorem Gm{id:Int}{s:List aA}{n:Nat}(h:n<s.length)(hne:∀i,i<n->(fileAt s i).1≠id)(he:(fileAt s n).1=id):place s id=n:=by
 grind [place,Va]
theorem O7{id:Int}{s:List aA}(hne:∀i,i<s.length->(fileAt s i).1≠id):place s id=-1:=Ox s 0 hne
theorem MP(s:List aA)(id:Int):(place s id=-1/\∀i,i<s.length->(fileAt s i).1≠id)\/∃n,n<s.length/\place s id=n/\(fileAt s n).1=id/\∀i,i<n->(fileAt s i).1≠id:=by
 by_cases h:∃n,n<s.length/\(fileAt s n).1=id
 .obtain⟨n,h1,h2,h3⟩:=(least s.length (p:=λn=>(fileAt s n).1=id) h)
  grind [Gm]
 grind [O7]
theorem QD:∀(a b:List aA)(k:Int)(id:Int),a.map (·.1)=b.map (·.1)->nG k a id=nG k b id
 |[],[],_,_,_=>rfl
 |[],_::_,_,_,h=>by simp at h
 |_::_,[],_,_,h=>by simp at h
 |f::a,g::b,k,id,h=>by
  simp only[att,List.cons.injEq]at h;show(bif decide (f.1=id)then k else nG (k+1) a id)=bif decide (g.1=id)then k else nG (k+1) b id
  rw[h.1,QD a b (k+1) id h.2]
theorem ala{a b:List aA}(id:Int)(h:a.map (·.1)=b.map (·.1)):place a id=place b id:=QD a b 0 id h
theorem Xq{s:List dI}{n:Nat}(h:n<s.length)(hn:iL s n=false):dO s=false:=by
 grind [dO,yA]
theorem aki{fs:List dI}{s:List dK}{n:Nat}(h:n<s.length)(hn:iT fs s n=false):nZ fs s=false:=yA h hn
theorem ae1{fs:List dI}{f:aA}{n:Nat}(h:n<f.2.2.2.2.1.length)(hn:iT fs f.2.2.2.2.1 n=false):dL fs f=false:=by
 grind [dL,aki]
theorem aaG{s:aT}{n:Nat}(h:n<s.2.1.length)(hn:jc s n=false):bf s=false:=by
 grind [bf,yA]
theorem JU{s:aT}{i:Nat}:jc s i=true↔dL s.1 (fileAt s.2.1 i)=true/\(fileAt s.2.1 i).1<s.2.2.1/\(0<i->(fileAt s.2.1 (i-1)).1<(fileAt s.2.1 i).1):=by
 grind [jc]
theorem Gy{s:aT}:bf s=true↔(∀i,i<s.2.1.length->jc s i=true)/\dO s.1=true/\s.2.1.length<=12/\1<=s.2.2.1/\s.2.2.1<=61:=by
 grind [bf,MX]
theorem alA{fs:List dI}{f:aA}(h:dL fs f=true):1<=f.1/\f.1<=60:=by
 grind [dL]
theorem JF(s:aT)(f:aA):(xK s f=(s,0,false)/\¬(bf s=true/\s.2.1.length<12/\dL s.1 (s.2.2.1,f.2)=true))\/
 (bf s=true/\s.2.1.length<12/\dL s.1 (s.2.2.1,f.2)=true/\xK s f=((s.1,s.2.1++[(s.2.2.1,f.2)],s.2.2.1+1,()),s.2.2.1,true)):=by
 grind [xK]
theorem aoR{fs:List aA}{n i:Nat}:fileAt (fs.eraseIdx n) i=if i<n then fileAt fs i else fileAt fs (i+1):=by
 grind [fileAt]
theorem akj{s:List aA}{f:aA}(h:f∈s):∃i,i<s.length/\fileAt s i=f:=by
 obtain⟨i,hi,rfl⟩:=atF h;refine⟨i,hi,?_⟩
 grind [fileAt]
theorem akk{s:List aA}{i:Nat}(h:i<s.length):fileAt s i∈s:=getD_mem h
theorem alB{s:aT}(h:bf s=true):∀(j i:Nat),i<j->j<s.2.1.length->(fileAt s.2.1 i).1<(fileAt s.2.1 j).1
 |0,i,hi,_=>by omega
 |j+1,i,hi,hj=>by
  have h1:=(JU.1 ((Gy.1 h).1 (j+1) hj)).2.2 (by omega);rw[Nat.add_sub_cancel]at h1;rcases atm i j with h2|h2
  .have:=alB h j i h2 (by omega);omega
  .have:i=j:=by omega
   rw[this];exact h1
theorem yw{s:aT}(u:Int)(h:dH s):dH (visible s u):=by
 obtain⟨h0,h1,h2⟩:=h;refine⟨h0,?_,λf hf=>?_⟩
 .show((s.2.1.filter (iJ · u)).map _).length<=1000
  grind
 .obtain⟨g,hg,rfl⟩:=atY.1 hf;exact h2 g (auf.1 hg).1
theorem U5{α:Type}{p:α->Bool}{d:α}:∀(l:List α)(n:Nat),n<=l.length->(∀i,i<n->p (l.getD i d)=true)->(n<l.length->p (l.getD n d)=false)->l.takeWhile p=l.take n/\l.dropWhile p=l.drop n
 |[],n,h,_,_=>by simp
 |x::r,0,_,_,h=>by
  simp_all
 |x::r,n+1,hn,h1,h2=>by have h0:p x=true:=h1 0 (by omega);have:=U5 r n (by simpa using hn) (λi hi=>h1 (i+1) (by omega)) λhlt=>h2 (by simpa using hlt);constructor<;>simp[h0,this.1,this.2]
theorem ait{s:aT}{id:Int}(h:(dn s id).2=true):(dn s id).1∈s.2.1/\(dn s id).1.1=id:=by
 grind [MP,dn,akk]
end Sp
namespace Sp
open Go Go.Fw
theorem XC{α:Type}{p:α->Bool}{d:α}:∀(s:List α)(k:Int)(n:Nat),n<s.length->(∀i,i<n->p (s.getD i d)=false)->p (s.getD n d)=true->Am p k s=k+n
 |[],_,n,h,_,_=>by simp at h
 |f::r,k,0,_,_,he=>by
  grind [Am]
 |f::r,k,n+1,h,hne,he=>by have h0:p f=false:=hne 0 (by omega);show(bif p f then k else Am p (k+1) r)=_;rw[h0];show Am p (k+1) r=_;rw[XC r (k+1) n (by simpa using h) (λi hi=>hne (i+1) (by omega)) he];omega
theorem QE{α:Type}{p:α->Bool}{d:α}:∀(s:List α)(k:Int),(∀i,i<s.length->p (s.getD i d)=false)->Am p k s=-1
 |[],_,_=>rfl
 |f::r,k,hne=>by have h0:p f=false:=hne 0 (by simp);show(bif p f then k else Am p (k+1) r)=_;rw[h0];exact QE r (k+1) λi hi=>hne (i+1) (by simp;omega)
theorem afh{α:Type}{p:α->Bool}{d:α}{s:List α}{n:Nat}(h:n<s.length)(hne:∀i,i<n->p (s.getD i d)=false)(he:p (s.getD n d)=true):findAt p s=n:=by
 grind [findAt,XC]
theorem XD{α:Type}{p:α->Bool}{d:α}{s:List α}(hne:∀i,i<s.length->p (s.getD i d)=false):findAt p s=-1:=QE s 0 hne
theorem ahI{α:Type}(p:α->Bool)(d:α)(s:List α):(findAt p s=-1/\∀i,i<s.length->p (s.getD i d)=false)\/∃n,n<s.length/\findAt p s=n/\p (s.getD n d)=true/\∀i,i<n->p (s.getD i d)=false:=by
 by_cases h:∃n,n<s.length/\p (s.getD n d)=true
 .obtain⟨n,h1,h2,h3⟩:=least s.length (p:=λn=>p (s.getD n d)=true) h
  grind [afh]
 .have hne:∀i,i<s.length->p (s.getD i d)=false:=λi hi=>by
   grind
  exact .inl ⟨XD hne,hne⟩
theorem XF:∀a:Bytes,Op.bytesLess a a=false
 |[]=>rfl
 |x::a=>by show(decide (x<x)||(x==x&&Op.bytesLess a a))=false;rw[XF a,atp (UInt8.lt_irrefl x),aub];rfl
theorem aci:∀a b:Bytes,Op.bytesLess a b=false->a≠b->Op.bytesLess b a=true
 |[],[],_,h=>(h rfl).elim
 |x::a,[],_,_=>rfl
 |[],y::b,h,_=>by cases h
 |x::a,y::b,h,hne=>by
  have h:(decide (x<y)||(x==y&&Op.bytesLess a b))=false:=h;show(decide (y<x)||(y==x&&Op.bytesLess b a))=true;rw[auv,atc]at h;by_cases e:x=y
  .subst e;have h2:Op.bytesLess a b=false:=by simpa using h.2
   rw[aci a b h2 (λe=>hne (by rw[e]))];simp
  .have:y<x:=by have h1:¬x.toNat<y.toNat:=λhh=>h.1 (UInt8.lt_iff_toNat_lt.2 hh);have h2:x.toNat≠y.toNat:=λhh=>e (UInt8.toNat_inj.1 hh);exact UInt8.lt_iff_toNat_lt.2 (by omega)
   rw[atj this];rfl
theorem alC{x y:UInt8}{a b:Bytes}:Op.bytesLess (x::a) (y::b)=true↔x.toNat<y.toNat\/(x=y/\Op.bytesLess a b=true):=by
 grind [Op.bytesLess,UInt8.lt_iff_toNat_lt]
theorem FI:∀a b c:Bytes,Op.bytesLess a b=true->Op.bytesLess b c=true->Op.bytesLess a c=true
 |_,[],_,h,_=>by cases h':(‹Bytes›:Bytes)<;>simp_all [Op.bytesLess]
 |_,_::_,[],_,h=>by cases h
 |[],_::_,_::_,_,_=>rfl
 |x::a,y::b,z::c,h1,h2=>by
  rw[alC]at h1 h2 ⊢;rcases h1 with h1|⟨rfl,h1⟩
  .rcases h2 with h2|⟨rfl,h2⟩
   .exact .inl (by omega)
   .exact .inl h1
  .rcases h2 with h2|⟨rfl,h2⟩
   .exact .inl h2
   .exact .inr ⟨rfl,FI a b c h1 h2⟩
theorem VD{a b:Bytes}(h:Op.bytesLess a b=true):a≠b:=λe=>by grind [XF]
theorem ahJ{s:List dI}:dO s=true↔(∀i,i<s.length->iL s i=true)/\s.length<=5:=by
 grind [dO,MX]
end Sp
namespace Sp
open Go
def nameOf(d:List ay)(i:Nat):Bytes:=(bQ d i).1
def fA(d:List ay)(i:Nat):List aS:=(bQ d i).2.1
def oL(r:List bK)(i:Nat):bK:=r.getD i ([],[],())
def gm(r:List bK)(i:Nat):List (Int×Unit):=(oL r i).2.1
def jV(d:List ay)(au:List (Int×Unit)):Prop:=
 au.length=d.length/\(∀i,i<d.length->0<=lv au i/\lv au i<=d.length)/\(gG (cO d) λi=>(lv au i).toNat)/\∀M,gG (cO d) M->∀i,i<d.length->lv au i<=M i
theorem UQ{d:List ay}{a b:List (Int×Unit)}(h1:jV d a)(h2:jV d b):a=b:=by
 refine alc (h1.1.trans h2.1.symm) λi hi=>?_;have hi:i<d.length:=by rw[← h1.1];exact hi
 have a1:=h1.2.2.2 _ h2.2.2.1 i hi;have a2:=h2.2.2.2 _ h1.2.2.1 i hi;have:=(h1.2.1 i hi).1;have:=(h2.2.1 i hi).1;omega
theorem aaK{d:List ay}(h:∃M,gG (cO d) M/\∀i,i<d.length->M i<d.length):∃s,jV d s:=by
 have hE:=jv d;have hmin:∀i,∃m,(∃M,gG (cO d) M/\M i=m)/\∀M,gG (cO d) M->m<=M i:=λi=>by
  obtain⟨M0,h0,_⟩:=h;have:∀n,(∃M,gG (cO d) M/\M i=n)->∃m,(∃M,gG (cO d) M/\M i=m)/\∀M,gG (cO d) M->m<=M i:=by
   intro n
   induction n using Nat.strongRecOn with
   |_ n ih=>
    intro hn;by_cases hl:∃M,gG (cO d) M/\M i<n
    .obtain⟨M,h1,h2⟩:=hl;exact ih _ h2 ⟨M,h1,rfl⟩
    grind
  exact this (M0 i) ⟨M0,h0,rfl⟩
 obtain⟨L,hL⟩:=Classical.axiomOfChoice hmin;have hfix:gG (cO d) L:=λe he=>by obtain⟨⟨M,h1,h2⟩,_⟩:=hL e.1;have a:=(hL e.2.1).2 M h1;have b:=h1 e he;omega
 have hlv:∀i,i<d.length->lv ((List.range d.length).map λi=>((L i:Int),())) i=L i:=λi hi=>by
  grind [lv]
 refine⟨(List.range d.length).map λi=>((L i:Int),()),by simp,λi hi=>?_,λe he=>?_,λM hM i hi=>?_⟩
 · grind
 .obtain⟨h1,h2,_⟩:=hE e he;have:=hfix e he
  grind
 grind
def Na(d:List ay)(au:List (Int×Unit))(s:Bytes):Nat:=(lv au (aG d s).toNat).toNat
def due(d:List ay)(nm:Bytes->Bool)(s:Bytes):Prop:=nm s=true/\∃i,i<d.length/\nameOf d i=s
theorem alD{d:List ay}(h:dV d=true){i:Nat}(hi:i<d.length):aW (fA d i)=true/\(0<i->Op.bytesLess (nameOf d (i-1)) (nameOf d i)=true):=by
 unfold dV at h;have h1:iU d i=true:=by
  grind [fK]
 unfold iU at h1;rw[as1,as1]at h1;refine⟨h1.1.2,λh0=>?_⟩
 grind [nameOf]
theorem aem{d:List ay}(h:dV d=true):∀(j i:Nat),i<j->j<d.length->Op.bytesLess (nameOf d i) (nameOf d j)=true
 |0,i,hi,_=>by omega
 |j+1,i,hi,hj=>by
  have h1:=(alD h hj).2 (by omega);rcases atm i j with h2|h2
  .exact FI _ _ _ (aem h j i h2 (by omega)) h1
  .have:i=j:=by omega
   subst this;exact h1
theorem ZF{d:List ay}(h:dV d=true){i j:Nat}(hi:i<d.length)(hj:j<d.length)(e:nameOf d i=nameOf d j):i=j:=by
 rcases au6 i j with h1|h1|h1
 · simp_all [VD,aem]
 .exact h1
 .exact(VD (aem h i j h1 hi) e.symm).elim
theorem Qe{d:List ay}(h:dV d=true){i:Nat}(hi:i<d.length):aG d (nameOf d i)=i:=by
 rcases BJ d (nameOf d i)with⟨_,h2⟩|⟨n,h1,h2,h3,_⟩
 .refine(h2 (bQ d i) ?_ rfl).elim
  grind [bQ]
 .rw[h2,ZF h h1 hi h3]
theorem uo{d:List ay}(h:dV d=true){au:List (Int×Unit)}{i:Nat}(hi:i<d.length):Na d au (nameOf d i)=(lv au i).toNat:=by
 grind [Na,Qe]
theorem ZG{fs:List aA}{d:List ay}(h:dV d=true){au:List (Int×Unit)}(hl:jV d au)(nm:Bytes->Bool):af6 (LX fs d) (due d nm) (Na d au):=by
 intro s t _ ht;obtain⟨_,j,hj,rfl⟩:=ht;have edge:∀i,i<d.length->∀m b,(m=0/\b=false\/m=1/\b=true)->nameOf d j∈dP (fA d i) b->(lv au j).toNat+m<=(lv au i).toNat:=λi hi m b hm hd=>by
  refine hl.2.2.1 (i,j,m) (Ah.2 ⟨hi,nameOf d j,?_,by grind [Qe],by grind [Qe]⟩);rcases hm with⟨a,b⟩|⟨a,b⟩
  .subst a b;exact .inl ⟨rfl,hd⟩
  .subst a b;exact .inr ⟨rfl,hd⟩
 refine⟨?_,?_⟩
 .rintro⟨i,hi,rfl,hd⟩;rw[show(bQ d i).1=nameOf d i from rfl,uo h hi,uo h hj];exact edge i hi 0 false (.inl ⟨rfl,rfl⟩) hd
 .rintro⟨i,hi,rfl,hd⟩;rw[show(bQ d i).1=nameOf d i from rfl,uo h hi,uo h hj];exact edge i hi 1 true (.inr ⟨rfl,rfl⟩) hd
def qO(d:List ay)(out:List bK):Prop:=out.length=d.length/\∀i,i<d.length->(oL out i).1=nameOf d i
theorem GI:∀{r:List bK}{s:Bytes},(∀i,i<r.length->(oL r i).1≠s)->dZ r s=[]
 |[],_,_=>rfl
 |x::r,s,h=>by have h0:x.1≠s:=h 0 (by simp);rw[dZ,asZ.2 h0];exact GI λi hi=>h (i+1) (by simpa using hi)
theorem Uy:∀{r:List bK}{i:Nat},i<r.length->(∀j,j<i->(oL r j).1≠(oL r i).1)->dZ r (oL r i).1=gm r i
 |[],i,h,_=>by simp at h
 |x::r,0,_,_=>by
  show dZ (x::r) x.1=x.2.1
  grind [dZ]
 |x::r,i+1,h,hn=>by have h0:x.1≠(oL r i).1:=hn 0 (by omega);show dZ (x::r) (oL r i).1=gm r i;rw[dZ,asZ.2 h0];exact Uy (by simpa using h) λj hj=>hn (j+1) (by omega)
theorem uM{d:List ay}(h:dV d=true){out:List bK}(ho:qO d out){i:Nat}(hi:i<d.length):dZ out (nameOf d i)=gm out i:=by rw[← ho.2 i hi];refine Uy (by rw[ho.1];exact hi) λj hj e=>?_;rw[ho.2 j (by omega),ho.2 i hi]at e;have:=ZF h (by omega) hi e;omega
theorem LY{d:List ay}{out:List bK}(ho:qO d out){s:Bytes}(hs:∀i,i<d.length->nameOf d i≠s):dZ out s=[]:=
 GI λi hi=>by rw[ho.1]at hi;rw[ho.2 i hi];exact hs i hi
structure kH(fs:List aA)(d:List ay)(r:List bK)(nm:Bytes->Bool)(out:List bK):Prop where
 order:qO d out
 kept:∀i,i<d.length->nm (nameOf d i)=false->gm out i=dZ r (nameOf d i)
 fix:∀i,i<d.length->nm (nameOf d i)=true->gm out i=sel fs (fA d i) (aY out)
 au:∃au,jV d au/\Eval (LX fs d) (due d nm) (Na d au) (aY out)
theorem VE{a b:List (Int×Unit)}(h:a=b)(x:Int):jh a x=jh b x:=by rw[h]
theorem anX{d:List ay}{a b:List bK}(ha:qO d a)(hb:qO d b)(h:∀i,i<d.length->gm a i=gm b i):a=b:=by
 refine List.ext_getElem (ha.1.trans hb.1.symm) λi h1 h2=>?_;have hi:i<d.length:=by rw[← ha.1];exact h1
 have e1:=ha.2 i hi;have e2:=hb.2 i hi
 grind [gm,oL]
theorem ahK{fs:List aA}{d:List ay}{r:List bK}{nm:Bytes->Bool}{a b:List bK}(h:dV d=true)(ha:kH fs d r nm a)(hb:kH fs d r nm b):a=b:=by
 obtain⟨l1,hl1,e1⟩:=ha.au;obtain⟨l2,hl2,e2⟩:=hb.au;have off:∀s,¬due d nm s->∀x,aY a s x=aY b s x:=λs hs x=>by
  by_cases hd:∃i,i<d.length/\nameOf d i=s
  .obtain⟨i,hi,rfl⟩:=hd;have hn:nm (nameOf d i)=false:=by rw[auJ];exactλhn=>hs ⟨hn,i,hi,rfl⟩
   exact VE (by rw[uM h ha.order hi,uM h hb.order hi,ha.kept i hi hn,hb.kept i hi hn]) x
  .have hd':∀i,i<d.length->nameOf d i≠s:=λi hi e=>hd ⟨i,hi,e⟩;exact VE (by rw[LY ha.order hd',LY hb.order hd']) x
 have key:=air (U:=due d nm) e1 e2 (ZG h hl1 nm) (ZG h hl2 nm) (λ_ h=>h) (λ_ h=>h) (λ_ _ _ _=>Iff.rfl) (λ_ _ _ h=>h) (λ_ _ _ h=>h)
  λi _ j _=>Classical.or_iff_not_imp_left.2 (off j)
 have all:aY a=aY b:=by
  grind
 refine anX ha.order hb.order λi hi=>?_;cases hn:nm (nameOf d i)with
 |false=>rw[ha.kept i hi hn,hb.kept i hi hn]
 |true=>rw[ha.fix i hi hn,hb.fix i hi hn,all]
def VF{ι α:Type}(S:Sys ι α)(N:ι->Prop)(au:ι->Nat)(k:Nat)(X:Ext ι α):Prop:=
 ∀Y:Ext ι α,(∀i,¬(N i/\au i=k)->∀x,Y i x=X i x)->(∀i,N i->au i=k->∀x,S.T i Y x->Y i x=true)->∀i,N i->au i=k->∀x,X i x=true->Y i x=true
open Classical in
theorem aen{ι α:Type}{S:Sys ι α}{N:ι->Prop}{au:ι->Nat}(hs:af6 S N au){m:Nat}{X X':Ext ι α}(h:∀i,¬(N i/\m<au i)->∀x,X i x=X' i x)(hX:VF S N au m X):VF S N au m X':=by
 intro Y hY hp i hi hl x hx;have key:=hX (λi x=>if N i/\m<au i then X i x else Y i x) (λj hj y=>?_) (λj hj hlj y hy=>?_) i hi hl x (by grind)
 · grind
 · grind
 .rw[if_neg (by omega)];have same:∀t,(S.pos j t\/S.neg j t)->¬(N t/\m<au t):=λt ht hc=>by
   rcases ht with ht|ht
   .have:=(hs j t hj hc.1).1 ht;omega
   .have:=(hs j t hj hc.1).2 ht;omega
  refine hp j hj hlj y (S.mono j _ Y (λt ht z hz=>?_) (λt ht z=>?_) y hy)
  · grind
  grind
def canon(fs:List aA)(l:List (Int×Unit)):Prop:=l=(fs.filter λf=>jh l f.1).map λf=>(f.1,())
def distinct(fs:List aA):Prop:=∀f∈fs,∀g∈fs,f.1=g.1->f=g
theorem alE{fs:List aA}(hd:distinct fs)(q:List aS)(X:BX):canon fs (sel fs q X):=by
 show _=List.map _ (List.filter _ _)
 conv=>lhs;unfold sel
 congr 1;apply List.filter_congr;intro f hf;rw[atu,En,ael];exact⟨λh=>⟨f,hf,rfl,h⟩,λ⟨g,hg,e,hm⟩=>by rw[hd f hf g hg e.symm];exact hm⟩
theorem afi{fs:List aA}{l:List (Int×Unit)}(h:canon fs l):l.length<=fs.length:=by rw[h,atb];grind
theorem filter_lt{α:Type}{p q:α->Bool}(h:∀x,p x=true->q x=true):∀{l:List α},(∃x∈l,q x=true/\p x=false)->(l.filter p).length<(l.filter q).length
 |[],h'=>by grind
 |y::r,h'=>by
  have le:(r.filter p).length<=(r.filter q).length:=by
   clear h'
   induction r with
   |nil=>grind
   |cons z t ih=>
    grind
  grind [filter_lt,Nat.lt_succ_of_lt]
theorem akl{fs:List aA}{a b:List (Int×Unit)}(ha:canon fs a)(hb:canon fs b)(h:∀x,jh a x=true->jh b x=true)(hne:b≠a):a.length<b.length:=by
 rw[ha,hb,atb,atb];refine filter_lt (p:=λf:aA=>jh a f.1) (q:=λf:aA=>jh b f.1) (λf=>h f.1) (atC λhno=>hne ?_);rw[ha,hb]
 grind [List.filter_congr]
structure ng(fs:List aA)(d:List ay)(r:List bK)(nm:Bytes->Bool)(au:List (Int×Unit))(k:Nat)(out:List bK):Prop where
 order:qO d out
 kept:∀i,i<d.length->nm (nameOf d i)=false->gm out i=dZ r (nameOf d i)
 later:∀i,i<d.length->nm (nameOf d i)=true->(k:Int)<lv au i->gm out i=[]
 done:∀i,i<d.length->nm (nameOf d i)=true->lv au i<k->gm out i=sel fs (fA d i) (aY out)
 Vb:∀m,m<k->VF (LX fs d) (due d nm) (Na d au) m (aY out)
 ahL:∀i,i<d.length->nm (nameOf d i)=true->lv au i=k->∀x,jh (gm out i) x=true->(x,())∈sel fs (fA d i) (aY out)
 least:VF (LX fs d) (due d nm) (Na d au) k (aY out)
 canon:∀i,i<d.length->nm (nameOf d i)=true->canon fs (gm out i)
theorem amy{fs:List aA}{d:List ay}{r:List bK}{nm:Bytes->Bool}{au:List (Int×Unit)}(h:dV d=true)(hl:jV d au){out:List bK}(ho:qO d out)
 (h1:∀i,i<d.length->nm (nameOf d i)=false->gm out i=dZ r (nameOf d i)) (h2:∀i,i<d.length->nm (nameOf d i)=true->gm out i=[]):ng fs d r nm au 0 out where
 order:=ho
 kept:=h1
 later:=λi hi hn _=>h2 i hi hn
 done:=λi hi _ hlt=>by have:=(hl.2.1 i hi).1;omega
 Vb:=λm hm=>by omega
 ahL:=λi hi hn _ x hx=>by rw[h2 i hi hn]at hx;cases hx
 least:=λY _ _ s hs _ x hx=>by obtain⟨hn,i,hi,rfl⟩:=hs;have hx:jh (dZ out (nameOf d i)) x=true:=hx;rw[uM h ho hi,h2 i hi hn]at hx;cases hx
 canon:=λi hi hn=>by rw[h2 i hi hn];show[]=List.map _ (List.filter _ _);grind [List.filter_eq_nil_iff,jh]
theorem LZ{out:List bK}{i j:Nat}{x:bK}(hi:i<out.length):oL (out.set i x) j=if j=i then x else oL out j:=by
 grind [oL]
theorem afj{d:List ay}{out:List bK}(ho:qO d out){i:Nat}(hi:i<d.length)(l:List (Int×Unit)):qO d (out.set i (nameOf d i,l,())):=by
 refine⟨by rw[avk];exact ho.1,λj hj=>?_⟩;rw[LZ (by rw[ho.1];exact hi)];split
 · grind
 .exact ho.2 j hj
theorem alF{d:List ay}(h:dV d=true){out:List bK}(ho:qO d out){i:Nat}(hi:i<d.length)(l:List (Int×Unit)):
 (∀x,aY (out.set i (nameOf d i,l,())) (nameOf d i) x=jh l x)/\∀s,s≠nameOf d i->∀x,aY (out.set i (nameOf d i,l,())) s x=aY out s x:=by
 have ho':=afj ho hi l;refine⟨λx=>?_,λs hs x=>?_⟩
 .refine VE ?_ x;rw[uM h ho' hi];unfold gm;rw[LZ (by rw[ho.1];exact hi),if_pos rfl]
 .refine VE ?_ x;by_cases hd:∃j,j<d.length/\nameOf d j=s
  .obtain⟨j,hj,rfl⟩:=hd;rw[uM h ho' hj,uM h ho hj];unfold gm;rw[LZ (by rw[ho.1];exact hi),if_neg (λe=>hs (by rw[e]))]
  grind [LY]
theorem af7{fs:List aA}{d:List ay}(h:dV d=true){i:Nat}(hi:i<d.length){X:BX}{x:Int}:(LX fs d).T (nameOf d i) X x↔(x,())∈sel fs (fA d i) X:=by
 constructor
 .rintro⟨j,hj,e,hx⟩;have:=ZF h hj hi e;subst this;exact hx
 .exactλhx=>⟨i,hi,rfl,hx⟩
theorem at_set{fs:List aA}{d:List ay}{r:List bK}{nm:Bytes->Bool}{au:List (Int×Unit)}{k:Nat}{out:List bK}(h:dV d=true)(hl:jV d au)(hf:distinct fs)(A:ng fs d r nm au k out){i:Nat}(hi:i<d.length)(hn:nm (nameOf d i)=true)(hk:lv au i=k):
 ng fs d r nm au k (out.set i (nameOf d i,sel fs (fA d i) (aY out),()))/\(sel fs (fA d i) (aY out)≠gm out i->(gm out i).length<(sel fs (fA d i) (aY out)).length)/\(sel fs (fA d i) (aY out)).length<=fs.length:=by
 have hc:=alE hf (fA d i) (aY out);have hol:i<out.length:=by rw[A.order.1];exact hi
 have hs:=ZG (fs:=fs) h hl nm;have hd:due d nm (nameOf d i):=⟨hn,i,hi,rfl⟩;have hlv:Na d au (nameOf d i)=k:=by grind [uo]
 obtain⟨g1,g2⟩:=alF h A.order hi (sel fs (fA d i) (aY out));have up:∀s x,aY out s x=true->aY (out.set i (nameOf d i,sel fs (fA d i) (aY out),())) s x=true:=λs x hx=>by
  by_cases e:s=nameOf d i
  .subst e;rw[g1,En];refine A.ahL i hi hn hk x ?_;have hx:jh (dZ out (nameOf d i)) x=true:=hx;rw[uM h A.order hi]at hx;exact hx
  grind
 have off:∀s,¬(due d nm s/\Na d au s=k)->∀x,aY out s x=aY (out.set i (nameOf d i,sel fs (fA d i) (aY out),())) s x:=λs hs' x=>(g2 s (λe=>hs' (by grind)) x).symm;have ids:∀j,gm (out.set i (nameOf d i,sel fs (fA d i) (aY out),())) j=if j=i then sel fs (fA d i) (aY out)else gm out j:=λj=>by
  grind [gm,LZ]
 refine⟨⟨afj A.order hi _,λj hj Vd=>?_,λj hj Vd hlj=>?_,λj hj Vd hlj=>?_,λm hm=>?_,λj hj Vd hlj x hx=>?_,?_,λj hj Vd=>?_⟩,λhne=>?_,afi hc⟩
 .rw[ids,if_neg (λe=>by grind)];exact A.kept j hj Vd
 .rw[ids,if_neg (λe=>by grind)];exact A.later j hj Vd hlj
 .rw[ids,if_neg (λe=>by grind),A.done j hj Vd hlj];refine alz λb s hsd x=>off s (λhc=>?_) x;have hdj:due d nm (nameOf d j):=⟨Vd,j,hj,rfl⟩;have:=hs (nameOf d j) s hdj hc.1;have asK:Na d au (nameOf d j)<k:=by rw[uo h hj];have:=(hl.2.1 j hj).1;omega
  cases b with
  |false=>have:=this.1 ⟨j,hj,rfl,hsd⟩;omega
  |true=>have:=this.2 ⟨j,hj,rfl,hsd⟩;omega
 .exact aen hs (λs hs'=>off s λhc=>hs' ⟨hc.1,by omega⟩) (A.Vb m hm)
 .have hT:(LX fs d).T (nameOf d j) (aY out) x:=by
   rw[af7 h hj];rw[ids]at hx;by_cases e:j=i
   · grind [En]
   .rw[if_neg e]at hx;exact A.ahL j hj Vd hlj x hx
  rw[← af7 h hj];refine(LX fs d).mono _ _ _ (λs _=>up s) (λs hsd=>off s λhc=>?_) x hT;have:=(hs (nameOf d j) s ⟨Vd,j,hj,rfl⟩ hc.1).2 hsd
  grind [uo]
 .intro Y hY hp s hsd hls x hx;have WY:∀t,¬(due d nm t/\Na d au t=k)->∀x,Y t x=aY out t x:=λt ht x=>(hY t ht x).trans (off t ht x).symm;have base:=A.least Y WY hp;by_cases e:s=nameOf d i
  .subst e;rw[g1,En,← af7 h hi]at hx;refine hp _ hsd hls x ((LX fs d).mono _ _ _ (λt _ y hy=>?_) (λt ht y=>?_) x hx)
   · grind
   .refine(WY t (λhc=>?_) y).symm;have:=(hs (nameOf d i) t hd hc.1).2 ht;omega
  grind
 .rw[ids];split
  .exact hc
  .exact A.canon j hj Vd
 .refine akl (A.canon i hi hn) hc (λx hx=>?_) hne;rw[En];exact A.ahL i hi hn hk x hx
theorem at_next{fs:List aA}{d:List ay}{r:List bK}{nm:Bytes->Bool}{au:List (Int×Unit)}{k:Nat}{out:List bK}(h:dV d=true)(A:ng fs d r nm au k out)(hstill:∀i,i<d.length->nm (nameOf d i)=true->lv au i=k->sel fs (fA d i) (aY out)=gm out i):ng fs d r nm au (k+1) out where
 order:=A.order
 kept:=A.kept
 later:=λi hi hn hlt=>A.later i hi hn (by omega)
 done:=λi hi hn hlt=>by
  by_cases e:lv au i=k
  · grind
  .exact A.done i hi hn (by omega)
 Vb:=λm hm=>by
  by_cases e:m=k
  .subst e;exact A.least
  .exact A.Vb m (by omega)
 ahL:=λi hi hn hl x hx=>by rw[A.later i hi hn (by omega)]at hx;cases hx
 least:=λY _ _ s hs hls x hx=>by obtain⟨hn,i,hi,rfl⟩:=hs;rw[uo h hi]at hls;have hx:jh (dZ out (nameOf d i)) x=true:=hx;rw[uM h A.order hi,A.later i hi hn (by omega)]at hx;cases hx
 canon:=A.canon
theorem at_end{fs:List aA}{d:List ay}{r:List bK}{nm:Bytes->Bool}{au:List (Int×Unit)}{k:Nat}{out:List bK}(h:dV d=true)(hl:jV d au)(A:ng fs d r nm au k out)(hk:∀i,i<d.length->lv au i<k):kH fs d r nm out where
 order:=A.order
 kept:=A.kept
 fix:=λi hi hn=>A.done i hi hn (hk i hi)
 au:=⟨au,hl,{
  fix:=λs hs x=>by obtain⟨hn,i,hi,rfl⟩:=hs;rw[af7 h hi,← A.done i hi hn (hk i hi),← En,← uM h A.order hi];rfl
  least:=λm Y hY hp s hs hls=>by
   have hm:m<k:=by obtain⟨hn,i,hi,rfl⟩:=hs;rw[uo h hi]at hls;have:=hk i hi;have:=(hl.2.1 i hi).1;omega
   exact A.Vb m hm Y hY hp s hs hls}⟩
def room(n:Nat)(out:List bK):Nat:=(out.map λx=>n-x.2.1.length).sum
theorem ZH{n:Nat}:∀{out:List bK}{i:Nat}{x:bK},i<out.length->(gm out i).length<x.2.1.length->x.2.1.length<=n->room n (out.set i x)<room n out
 |[],i,x,h,_,_=>by simp at h
 |y::r,0,x,_,h1,h2=>by
  have h1:y.2.1.length<x.2.1.length:=h1;show((x::r).map λx=>n-x.2.1.length).sum<((y::r).map λx=>n-x.2.1.length).sum
  grind
 |y::r,i+1,x,h,h1,h2=>by
  have ih:=ZH (out:=r) (i:=i) (x:=x) (by simpa using h) h1 h2
  grind [room]
end Sp
namespace Sp
open Go
abbrev LQ:=Bytes×List (Int×Unit)×List (Int×Unit)×Unit
abbrev jL:=List dI×List aA×Int×List ay×List bK×Unit
instance:DecidableEq (List (Int×Unit)):=inferInstance
instance:DecidableEq bK:=inferInstance
instance:DecidableEq (List bK):=inferInstance
instance:DecidableEq (List bK×Unit):=inferInstance
instance:DecidableEq (List ay×List bK×Unit):=inferInstance
instance:DecidableEq (Int×List ay×List bK×Unit):=inferInstance
instance:DecidableEq (List aA×Int×List ay×List bK×Unit):=inferInstance
instance asL:DecidableEq jL:=(inferInstance:DecidableEq (List dI×List aA×Int×List ay×List bK×Unit))
def lG(l:LS)(s:Bytes):Bool:=l.any λx=>x.1==s
theorem ahw{l:LS}{s:Bytes}:lG l s=true↔(s,())∈l:=by
 grind [lG]
def bW(r:List bK):Prop:=r.length<=1000/\∀x∈r,x.2.1.length<=1000
def mY(c:jL):aT:=(c.1,c.2.1,c.2.2.1,())
def qH(c:jL):List ay:=c.2.2.2.1
def ahM(c:jL):List bK:=c.2.2.2.2.1
def mD(d:List ay):LS:=d.map λx=>(x.1,())
def ZO(d:List ay)(m:Int):Prop:=m<=1000/\∀au,aI d=true->jV d au->∀i,i<d.length->lv au i<=m
open Classical in
noncomputable def LU (c:jL):Bool:=aI (qH c)&&bf (mY c)&&decide (kH c.2.1 (qH c) [] (λ_=>true) (ahM c))
def amz(f g:aA):List Bytes:=((f.2.2.2.2.1++g.2.2.2.2.1).map λa=>a.1).filter λs=>!decide (bU f.2.2.2.2.1 s=bU g.2.2.2.2.1 s)
def anY(q:List aS):List Bytes:=(q.filter λn=>n.1==2||(n.1==3||n.1==4)).map λn=>n.2.2.2.1
def ach(q:List aS):List Bytes:=(q.filter yB).map λn=>n.2.2.2.1
def linked(q:List aS):Bool:=q.any λn=>n.1==9
inductive Reach(d:List ay)(P:Bytes->Prop):Bytes->Prop where
 |base {s}:P s->Reach d P s
 |step {s i}:Reach d P s->i<d.length->s∈ach (fA d i)->Reach d P (nameOf d i)
def amA(d:List ay)(f g:aA)(s:Bytes):Prop:=
 ∃i,i<d.length/\nameOf d i=s/\(f.1≠g.1\/(∃t,t∈anY (fA d i)/\t∈amz f g)\/(linked (fA d i)=true/\f.2.2.2.1≠g.2.2.2.1))
def Aff(d:List ay)(f g:aA):Bytes->Prop:=Reach d (amA d f g)
open Classical in
noncomputable def asM (d:List ay) (f g:aA) (s:Bytes):Bool:=decide (Aff d f g s)
def without(a b:List (Int×Unit)):List (Int×Unit):=a.filter λx=>!jh b x.1
def aoS(a:List bK)(x:bK):LQ:=(x.1,without x.2.1 (dZ a x.1),without (dZ a x.1) x.2.1,())
def aoT(y:LQ):Bool:=decide (0<y.2.1.length+y.2.2.1.length)
def anq(a b:List bK):List LQ:=(b.map (aoS a)).filter aoT
def arE(l:List (Int×Unit))(n:Int):List (Int×Unit):=
 let k:=(l.takeWhile λx=>decide (x.1<n)).length
 bif decide (k<l.length)&&(l.getD k (0,())).1==n then l else l.take k++[(n,())]++l.drop k
def alG(l:List (Int×Unit))(xs:List (Int×Unit)):List (Int×Unit):=xs.foldl (λl x=>arE l x.1) l
def amB(l x y:List (Int×Unit)):List (Int×Unit):=alG (alG [] (l.filter λz=>!jh y z.1)) x
def Jb(fs:List aA)(d:List ay)(r:List bK)(nm:Bytes->Bool)(au:List (Int×Unit))(k:Nat)(Ve:List bK)(i:Nat)(c:Bool)(out:List bK):Prop:=
 ng fs d r nm au k out/\(c=true->room fs.length out<room fs.length Ve)/\
  (c=false->out=Ve/\∀j,j<i->j<d.length->nm (nameOf d j)=true->lv au j=k->sel fs (fA d j) (aY out)=gm out j)
theorem Hw{fs:List aA}{d:List ay}{r:List bK}{nm:Bytes->Bool}{au:List (Int×Unit)}{k i:Nat}{Ve out:List bK}{c:Bool}(h:Jb fs d r nm au k Ve i c out)(hs:nm (nameOf d i)=true->lv au i=k->sel fs (fA d i) (aY out)=gm out i):Jb fs d r nm au k Ve (i+1) c out:=
 ⟨h.1,h.2.1,λhc=>⟨(h.2.2 hc).1,λj hj hd hn hl=>by
   rcases atm j i with h'|h'
   .exact(h.2.2 hc).2 j h' hd hn hl
   grind⟩⟩
theorem ahv{fs:List aA}{d:List ay}{r:List bK}{nm:Bytes->Bool}{au:List (Int×Unit)}{k i:Nat}{Ve out:List bK}{c:Bool}(hd:dV d=true)(hl:jV d au)(hf:distinct fs)(h:Jb fs d r nm au k Ve i c out)(hi:i<d.length)(hn:nm (nameOf d i)=true)(hk:lv au i=k)(hne:sel fs (fA d i) (aY out)≠gm out i):
 Jb fs d r nm au k Ve (i+1) true (out.set i ((oL out i).1,sel fs (fA d i) (aY out),())):=by
 obtain⟨A,h1,h2⟩:=h;rw[A.order.2 i hi];obtain⟨g1,g2,g3⟩:=at_set hd hl hf A hi hn hk;refine⟨g1,λ_=>?_,λh=>by cases h⟩;have hr:room fs.length (out.set i (nameOf d i,sel fs (fA d i) (aY out),()))<room fs.length out:=ZH (by rw[A.order.1];exact hi) (g2 hne) g3
 grind
theorem Xw{fs:List aA}{d:List ay}{r:List bK}{nm:Bytes->Bool}{au:List (Int×Unit)}{k:Nat}{out:List bK}(A:ng fs d r nm au k out)(hd:d.length<=1000)(hf:fs.length<=1000)(hr:bW r):bW out:=by
 refine⟨by rw[A.order.1];exact hd,λx hx=>?_⟩;obtain⟨i,hi,rfl⟩:=atF hx;have hi':i<d.length:=by rw[← A.order.1];exact hi
 have e:(out[i]).2.1=gm out i:=by
  grind [gm,oL]
 rw[e];cases hn:nm (nameOf d i)with
 |true=>exact as3 (afi (A.canon i hi' hn)) hf
 |false=>
  rw[A.kept i hi' hn];have:∀l:List bK,(∀x∈l,x.2.1.length<=1000)->(dZ l (nameOf d i)).length<=1000:=by
   intro l
   induction l with
   |nil=>exactλ_=>atl _
   |cons x t ih=>
    grind [dZ]
  exact this r hr.2
def wH(r:List bK)(nm:Bytes->Bool)(x:ay):bK:=(x.1,bif nm x.1 then[]else dZ r x.1,())
theorem ZI{d:List ay}{r:List bK}{nm:Bytes->Bool}{i:Nat}(hi:i<d.length):oL (d.map (wH r nm)) i=wH r nm (bQ d i):=by
 grind [oL,bQ]
theorem MQ{fs:List aA}{d:List ay}{r:List bK}{nm:Bytes->Bool}{au:List (Int×Unit)}(hd:dV d=true)(hl:jV d au):ng fs d r nm au 0 (d.map (wH r nm)):=by
 refine amy hd hl ⟨by simp,λi hi=>?_⟩ (λi hi hn=>?_) λi hi hn=>?_
 .rw[ZI hi];rfl
 .unfold gm;rw[ZI hi];show(bif nm (nameOf d i)then[]else dZ r (nameOf d i))=_;rw[hn];rfl
 .unfold gm;rw[ZI hi];show(bif nm (nameOf d i)then[]else dZ r (nameOf d i))=_;rw[hn];rfl
theorem ahN{s:aT}(h:bf s=true):∀(j i:Nat),i<j->j<s.2.1.length->(fileAt s.2.1 i).1<(fileAt s.2.1 j).1:=by
 intro j
 induction j with
 |zero=>omega
 |succ j ih=>
  intro i hi hj;have h1:jc s (j+1)=true:=by
   grind [bf,fK]
  grind [jc]
theorem BI{s:aT}(h:bf s=true):distinct s.2.1:=by
 intro f hf g hg e;obtain⟨i,hi,rfl⟩:=atF hf;obtain⟨j,hj,rfl⟩:=atF hg;have at_:∀k(hk:k<s.2.1.length),fileAt s.2.1 k=s.2.1[k]:=λk hk=>by
  grind [fileAt]
 rcases au6 i j with h1|h1|h1
 .have:=ahN h j i h1 hj
  grind
 .subst h1;rfl
 .have:=ahN h i j h1 hi
  grind
theorem ain{fs:List aA}{d:List ay}{r r':List bK}{nm nm':Bytes->Bool}{out:List bK}(h:kH fs d r nm out)(hn:∀i,i<d.length->nm (nameOf d i)=nm' (nameOf d i))(hr:∀i,i<d.length->nm (nameOf d i)=false->dZ r (nameOf d i)=dZ r' (nameOf d i)):kH fs d r' nm' out:=by
 have hd:∀s,due d nm s↔due d nm' s:=λs=>by
  constructor
  .rintro⟨a,i,hi,rfl⟩;exact⟨by grind,i,hi,rfl⟩
  .rintro⟨a,i,hi,rfl⟩;exact⟨by grind,i,hi,rfl⟩
 obtain⟨au,h1,h2⟩:=h.au;exact⟨h.order,λi hi h'=>by rw[← hn i hi]at h';rw[h.kept i hi h',hr i hi h'],λi hi h'=>h.fix i hi (by grind),au,h1,
  λs hs=>h2.fix s ((hd s).2 hs),λk Y hY hp s hs=>h2.least k Y (λt ht=>hY t λh'=>ht ⟨(hd t).2 h'.1,h'.2⟩) (λt ht=>hp t ((hd t).1 ht)) s ((hd s).2 hs)⟩
theorem akm{fs:List aA}{d:List ay}{r:List bK}{nm:Bytes->Bool}{au:List (Int×Unit)}{k:Nat}(hd:dV d=true)(hl:jV d au)(hf:distinct fs):∀(n:Nat)(out:List bK),room fs.length out<=n->ng fs d r nm au k out->∃out',ng fs d r nm au (k+1) out':=by
 intro n
 induction n using Nat.strongRecOn with
 |_ n ih=>
  intro out hn A;by_cases hs:∀i,i<d.length->nm (nameOf d i)=true->lv au i=k->sel fs (fA d i) (aY out)=gm out i
  .exact⟨out,at_next hd A hs⟩
  .obtain⟨i,hi⟩:=Classical.not_forall.1 hs;have h1:i<d.length:=atC λh=>hi λh'=>(h h').elim;have h2:nm (nameOf d i)=true:=atC λh=>hi λ_ h'=>(h h').elim;have h3:lv au i=k:=atC λh=>hi λ_ _ h'=>(h h').elim;have h4:sel fs (fA d i) (aY out)≠gm out i:=λh=>hi λ_ _ _=>h;obtain⟨g1,g2,g3⟩:=at_set hd hl hf A h1 h2 h3;have hr:room fs.length (out.set i (nameOf d i,sel fs (fA d i) (aY out),()))<room fs.length out:=ZH (by rw[A.order.1];exact h1) (g2 h4) g3;exact ih _ (by omega) _ (as7 _) g1
theorem ace{fs:List aA}{d:List ay}(r:List bK)(nm:Bytes->Bool){au:List (Int×Unit)}(hd:dV d=true)(hl:jV d au)(hf:distinct fs):∃out,kH fs d r nm out:=by
 have:∀k,∃out,ng fs d r nm au k out:=λk=>by
  induction k with
  |zero=>exact⟨_,MQ hd hl⟩
  |succ k ih=>obtain⟨out,A⟩:=ih;exact akm hd hl hf _ out (as7 _) A
 obtain⟨out,A⟩:=this (d.length+1);exact⟨out,at_end hd hl A λi hi=>by have:=(hl.2.1 i hi).2;omega⟩
end Sp
namespace Sp
open Go
end Sp
namespace Sp
open Go
def arF(as:List dK):Prop:=as.Pairwise λx y=>Op.bytesLess x.1 y.1=true
theorem ZJ{α:Type}{R:α->α->Prop}(ht:∀a b c,R a b->R b c->R a c)(d:α):∀(l:List α),(∀i,i+1<l.length->R (l.getD i d) (l.getD (i+1) d))->l.Pairwise R
 |[],_=>List.Pairwise.nil
 |[x],_=>List.pairwise_singleton _ _
 |x::y::r,h=>by
  have ih:=ZJ ht d (y::r) λi hi=>h (i+1) (by simpa using hi);have h0:R x y:=h 0 (by simp)
  grind [List.pairwise_cons]
theorem XG{fs:List dI}{as:List dK}:nZ fs as=true↔(∀a∈as,gK fs a.1 a.2.1 a.2.2.1 a.2.2.2.1=true)/\arF as:=by
 have at_:∀i(hi:i<as.length),bZ as i=as[i]:=λi hi=>by grind [bZ]
 unfold nZ;rw[show(fK as.length (iT fs as)=true)↔∀i,i<as.length->iT fs as i=true from by
  grind [fK]]
 have one:∀i,iT fs as i=true↔gK fs (bZ as i).1 (bZ as i).2.1 (bZ as i).2.2.1 (bZ as i).2.2.2.1=true/\(0<i->Op.bytesLess (bZ as (i-1)).1 (bZ as i).1=true):=λi=>by
  grind [iT]
 constructor
 .intro h;refine⟨λa ha=>?_,?_⟩
  · grind [List.getElem_of_mem]
  .refine ZJ (R:=λx y:dK=>Op.bytesLess x.1 y.1=true) (λa b c h1 h2=>FI _ _ _ h1 h2) ([],0,0,[],()) as λi hi=>?_
   grind
 .rintro⟨h1,h2⟩ i hi;refine(one i).2 ⟨?_,λh0=>?_⟩
  · grind
  .rw[at_ i hi,at_ (i-1) (by omega)];exact avb.1 h2 (i-1) i (by omega) hi (by omega)
theorem ahO{α:Type}[BEq α][LawfulBEq α]:∀(a b:List α),a.Nodup->(∀x∈a,x∈b)->a.length<=b.length
 |[],_,_,_=>atl _
 |x::r,b,hn,h=>by
  rw[avj]at hn;have ih:=ahO r (b.erase x) hn.2 λy hy=>by
   grind
  grind
theorem Qg:∀{fs:List dI}{s:Bytes},kindOf fs s≠0->s∈fs.map λf=>f.1
 |[],_,h=>(h rfl).elim
 |f::r,s,h=>by
  rw[kindOf]at h;by_cases e:f.1=s
  .rw[att,e];exact as9
  .rw[atp e]at h;exact as8 _ (Qg h)
theorem amC{fs:List dI}{as:List dK}(h:nZ fs as=true):as.length<=fs.length:=by
 obtain⟨h1,h2⟩:=XG.1 h;have:=ahO (as.map λa=>a.1) (fs.map λf=>f.1) ?_ λs hs=>?_
 · grind
 .unfold List.Nodup;rw[au5];exact h2.imp λ{a b} hab=>VD hab
 grind [gK,Qg]
end Sp
namespace Sp
open Go
def belowD(name:Bytes)(x:ay):Bool:=Op.bytesLess x.1 name
def alH(name:Bytes)(x:ay):Bool:=!(x.1==name)
def alI(d:List ay)(x:ay):List ay:=d.takeWhile (belowD x.1)++x::(d.dropWhile (belowD x.1)).filter (alH x.1)
def ahP(d:List ay)(x:ay):List ay×Bool:=bif dV d&&dV (alI d x)then(alI d x,true)else(d,false)
def became(c:jL)(s:aT)(d:List ay)(ok0:Bool)(c':jL)(df:List LQ)(ok:Bool):Prop:=
 ok=ok0/\(ok=true->mY c'=s/\qH c'=d/\LU c'=true/\df=anq (ahM c) (ahM c'))/\(ok=false->c'=c/\df=[])
def named(f:aA)(w:Bytes):aA:=(f.1,f.2.1,f.2.2.1,f.2.2.2.1,aiY f.2.2.2.2.1 [110] 2 0 w,())
def ZK(c:jL)(u id:Int):Bool:=(dn (mY c) id).2&&ams (dn (mY c) id).1 u
def baseName(f:aA):Bytes:=bif (bU f.2.2.2.2.1 [110]).1==2 then(bU f.2.2.2.2.1 [110]).2.2.1 else[102,105,108,101]
end Sp
namespace Sp
open Go
def aoV(b:UInt8):Bool:=decide (32<=b.toNat)&&decide (b.toNat<=126)
def wordsOf(s:Bytes):LS:=(Lib.fields s).map (·,())
def ai4(s:Bytes):Bool:=decide ((s.length:Int)<=600)&&s.all aoV&&decide (((Lib.fields s).length:Int)<=24)
def aoW(s:Bytes):LS:=bif ai4 s then wordsOf s else[]
def C9(s:Bytes):Int:=s.foldl (λn b=>10*n+((b.toNat:Int)-48)) 0
def BM(s:Bytes):Bool:=nS (C9 s)&&(Lib.itoa (C9 s)==s)
def parseNum(s:Bytes):Int:=bif BM s then C9 s else 0
def wordAt(w:LS)(i:Int):Bytes:=bif decide (i>=(w.length:Int))then[]else(w.getD i.toNat ([],())).1
def anr(w:LS):Bytes:=Lib.join (w.map (·.1)) [32]
def numAt(w:LS)(i:Int):Int:=parseNum (wordAt w i)
end Sp
namespace Sp
open Go
theorem amD(u:Nat):Lib.itoa (u:Int)=Lib.decDigits u:=by grind [Lib.itoa]
theorem afQ(s:Bytes)(d:UInt8):C9 (s++[d])=10*C9 s+((d.toNat:Int)-48):=by grind [C9]
theorem byte_of(d:Nat)(h:d<10):(UInt8.ofNat (48+d)).toNat=48+d:=by rw[UInt8.toNat_ofNat'];omega
theorem Oy(s:List UInt8):∀(acc:Nat)(n:Nat),Lib.decFrom acc s=some n->∀d,d<10->Lib.decFrom acc (s++[UInt8.ofNat (48+d)])=some (n*10+d):=by
 intro acc n h d hd
 induction s generalizing acc with
 |nil=>
  have:∀d:Fin 10,Lib.digitVal (UInt8.ofNat (48+d.val))=some d.val:=by decide
  have h2:=this ⟨d,hd⟩
  grind [Lib.decFrom]
 |cons a r ih=>
  grind [Lib.decFrom]
theorem Ia:∀(k u:Nat),u<10 ^ (k+1)->C9 (Lib.decDigits u)=u/\Lib.decFrom 0 (Lib.decDigits u)=some u/\(∀b∈Lib.decDigits u,48<=b.toNat/\b.toNat<=57)/\Lib.decDigits u≠[]/\(Lib.decDigits u).length<=k+1
 |0,u,h=>by
  rw[Lib.decDigits_one h];have hb:=byte_of u h;have:=Oy [] 0 0 rfl u h;refine⟨?_,?_,λb hm=>?_,List.cons_ne_nil _ _,as7 _⟩
  .show 10*0+_=_;omega
  · grind
  grind
 |k+1,u,h=>by
  by_cases h1:u<10
  .have:=Ia 0 u (by simpa using h1)
   grind
  .have hd:u / 10<10 ^ (k+1):=by omega
   obtain⟨i1,i2,i3,i4,i5⟩:=Ia k (u / 10) hd;have e:Lib.decDigits u=Lib.decDigits (u / 10)++[UInt8.ofNat (48+u%10)]:=by
    grind [Lib.decDigits]
   have hm:u%10<10:=au7 _ (by decide);have hb:=byte_of (u%10) hm;rw[e];refine⟨by grind [afQ],?_,λb hb2=>?_,by simp,by simp;omega⟩
   .rw[Oy _ _ _ i2 _ hm];congr 1;omega
   grind
theorem Qh{n:Int}:nS n=true↔0<=n/\n<=1000000000:=by
 grind [nS]
theorem alJ{n:Int}(h:nS n=true):C9 (Lib.itoa n)=n/\Lib.atoi (Lib.itoa n)=some n/\(∀b∈Lib.itoa n,48<=b.toNat/\b.toNat<=57)/\Lib.itoa n≠[]/\(Lib.itoa n).length<=10:=by
 obtain⟨h0,h1⟩:=Qh.1 h;obtain⟨u,rfl⟩:=Int.eq_ofNat_of_zero_le h0;have hu:u<10 ^ (9+1):=by omega
 rw[amD];obtain⟨i1,i2,i3,i4,i5⟩:=Ia 9 u hu;cases hd:Lib.decDigits u with
 |nil=>grind
 |cons b r=>
  have n45:(b==45)=false:=by rw[asZ];intro e;simp_all
  have n43:(b==43)=false:=by rw[asZ];intro e;simp_all
  grind [Lib.atoi,Lib.decNat]
theorem XH{s:Bytes}:BM s=true↔nS (C9 s)=true/\Lib.itoa (C9 s)=s:=by
 grind [BM]
theorem akn{s:Bytes}{n:Int}(h:nS n=true)(e:Lib.itoa n=s):BM s=true/\parseNum s=n:=by
 grind [alJ,XH,parseNum]
theorem ako{n:Int}(h:nS n=true):BM (Lib.itoa n)=true/\parseNum (Lib.itoa n)=n:=akn h rfl
theorem afR{s:Bytes}(h:BM s=true):Lib.itoa (parseNum s)=s/\nS (parseNum s)=true:=by
 grind [parseNum,XH]
theorem afS(s:Bytes):nS (parseNum s)=true:=by
 cases h:BM s with
 |true=>exact(afR h).2
 |false=>unfold parseNum;rw[h];rfl
end Sp
namespace Sp
open Go
end Sp
namespace Sp
open Go
theorem abA(w:LS)(i:Int)(h:wordAt w i=Lib.itoa (numAt w i)):BM (wordAt w i)=true:=by rw[h];exact(ako (afS _)).1
end Sp
namespace Sp
open Go
end Sp
namespace Sp
open Go
inductive QT where
 |leaf (n:aS)
 |neg (t:QT)
 |two (op:Int) (a b:QT)
def kwQ(op:Int):Bytes:=
 bif op==1 then[97,108,108]else bif op==2 then[104,97,115]else bif op==3 then[101,113]else bif op==4 then[108,116]else
 bif op==5 then[110,111,116]else bif op==6 then[97,110,100]else bif op==7 then[111,114]else bif op==8 then[105,110]else
 bif op==9 then[108,105,110,107,101,100]else[63]
def nI(w:Bytes):Int:=
 bif w==[97,108,108]then 1 else bif w==[104,97,115]then 2 else bif w==[101,113]then 3 else bif w==[108,116]then 4 else
 bif w==[110,111,116]then 5 else bif w==[97,110,100]then 6 else bif w==[111,114]then 7 else bif w==[105,110]then 8 else
 bif w==[108,105,110,107,101,100]then 9 else 0
def Vf(s:Bytes):Uz×Bool:=
 bif BM s then(bif decide (parseNum s<=999)then((1,parseNum s,[],()),true)else((0,0,[],()),false))
 else bif s==[45]then((0,0,[],()),true)else bif eF s then((2,0,s,()),true)else((0,0,[],()),false)
def ai5(v:Uz):Bytes:=
 bif !gV v.1 v.2.1 v.2.2.1 then[63]else bif v.1==1 then Lib.itoa v.2.1 else bif v.1==2 then v.2.2.1 else[45]
def QT.size:QT->Nat
 |.leaf _=>1
 |.neg t=>t.size+1
 |.two _ a b=>a.size+b.size+1
def post:QT->Nat->List aS
 |.leaf n,_=>[n]
 |.neg t,b=>post t b++[(5,((b+t.size:Nat):Int)-1,0,[],0,0,[],())]
 |.two op x y,b=>post x b++(post y (b+x.size)++[(op,((b+x.size:Nat):Int)-1,((b+x.size+y.size:Nat):Int)-1,[],0,0,[],())])
def aoY(n:aS):List Bytes:=
 kwQ n.1::(bif n.1==2||(n.1==8||n.1==9)then[n.2.2.2.1]else bif n.1==3||n.1==4 then[n.2.2.2.1,ai5 n.2.2.2.2]else[])
def ls(w:List Bytes):LS:=w.map (·,())
def rd:Nat->LS->List aS->Bool×LS×List aS
 |0,w,q=>(false,w,q)
 |k+1,w,q=>
  bif nI (wordAt w 0)==2||(nI (wordAt w 0)==8||nI (wordAt w 0)==9)then(true,(w.drop 1).drop 1,q++[(nI (wordAt w 0),0,0,wordAt (w.drop 1) 0,0,0,[],())])
  else bif nI (wordAt w 0)==3||nI (wordAt w 0)==4 then
   ((Vf (wordAt ((w.drop 1).drop 1) 0)).2,((w.drop 1).drop 1).drop 1,q++[(nI (wordAt w 0),0,0,wordAt (w.drop 1) 0,(Vf (wordAt ((w.drop 1).drop 1) 0)).1)])
  else bif nI (wordAt w 0)==5 then
   ((rd k (w.drop 1) q).1,(rd k (w.drop 1) q).2.1,(rd k (w.drop 1) q).2.2++[(5,((rd k (w.drop 1) q).2.2.length:Int)-1,0,[],0,0,[],())])
  else bif nI (wordAt w 0)==6||nI (wordAt w 0)==7 then
   (bif (rd k (w.drop 1) q).1 then
     ((rd k (rd k (w.drop 1) q).2.1 (rd k (w.drop 1) q).2.2).1,(rd k (rd k (w.drop 1) q).2.1 (rd k (w.drop 1) q).2.2).2.1,
       (rd k (rd k (w.drop 1) q).2.1 (rd k (w.drop 1) q).2.2).2.2++[(nI (wordAt w 0),((rd k (w.drop 1) q).2.2.length:Int)-1,((rd k (rd k (w.drop 1) q).2.1 (rd k (w.drop 1) q).2.2).2.2.length:Int)-1,[],0,0,[],())])
   else(false,(rd k (w.drop 1) q).2.1,(rd k (w.drop 1) q).2.2++[(nI (wordAt w 0),((rd k (w.drop 1) q).2.2.length:Int)-1,((rd k (w.drop 1) q).2.2.length:Int)-1,[],0,0,[],())]))
  else(!(nI (wordAt w 0)==0),w.drop 1,q++[(nI (wordAt w 0),0,0,[],0,0,[],())])
end Sp
namespace Sp
open Go
end Sp
namespace Sp
open Go
def rs:Nat->LS->List aS->List aS×Int
 |0,_,q=>(q,0)
 |d+1,w,q=>
  bif nI (wordAt w 0)==0||decide ((q.length:Int)>9)then(q,0)
  else bif nI (wordAt w 0)==2||(nI (wordAt w 0)==8||nI (wordAt w 0)==9)then(q++[(nI (wordAt w 0),0,0,wordAt w 1,0,0,[],())],2)
  else bif nI (wordAt w 0)==3||nI (wordAt w 0)==4 then(q++[(nI (wordAt w 0),0,0,wordAt w 1,(Vf (wordAt w 2)).1)],3)
  else bif nI (wordAt w 0)==5||(nI (wordAt w 0)==6||nI (wordAt w 0)==7)then
   (bif (rs d (w.drop 1) q).2==0 then((rs d (w.drop 1) q).1,0)
   else bif nI (wordAt w 0)==5 then((rs d (w.drop 1) q).1++[(5,((rs d (w.drop 1) q).1.length:Int)-1,0,[],0,0,[],())],1+(rs d (w.drop 1) q).2)
   else bif (rs d (w.drop (1+(rs d (w.drop 1) q).2).toNat) (rs d (w.drop 1) q).1).2==0 then((rs d (w.drop (1+(rs d (w.drop 1) q).2).toNat) (rs d (w.drop 1) q).1).1,0)
   else((rs d (w.drop (1+(rs d (w.drop 1) q).2).toNat) (rs d (w.drop 1) q).1).1++[(nI (wordAt w 0),((rs d (w.drop 1) q).1.length:Int)-1,((rs d (w.drop (1+(rs d (w.drop 1) q).2).toNat) (rs d (w.drop 1) q).1).1.length:Int)-1,[],0,0,[],())],
    1+(rs d (w.drop 1) q).2+(rs d (w.drop (1+(rs d (w.drop 1) q).2).toNat) (rs d (w.drop 1) q).1).2))
  else(q++[(nI (wordAt w 0),0,0,[],0,0,[],())],1)
end Sp
namespace Sp
open Go
end Sp
namespace Sp
open Go
def acH:Nat->List aS->Int->List Bytes
 |0,_,_=>[]
 |k+1,q,i=>
  bif (nodeAt q i.toNat).1==5 then kwQ (nodeAt q i.toNat).1::acH k q (nodeAt q i.toNat).2.1
  else bif (nodeAt q i.toNat).1==6||(nodeAt q i.toNat).1==7 then kwQ (nodeAt q i.toNat).1::(acH k q (nodeAt q i.toNat).2.1++acH k q (nodeAt q i.toNat).2.2.1)
  else aoY (nodeAt q i.toNat)
def textOf(q:List aS):Bytes:=bif aW q then Lib.join (acH 9 q ((q.length:Int)-1)) [32]else[]
def af8(w:LS):Bool×LS×List aS:=rd (w.length+1) w []
def anZ(s:Bytes):Bool:=ai4 s&&((af8 (wordsOf s)).1&&(!decide (((af8 (wordsOf s)).2.1.length:Int)>0)&&aW (af8 (wordsOf s)).2.2))
def alK(s:Bytes):List aS:=bif anZ s then(af8 (wordsOf s)).2.2 else[]
end Sp
namespace Sp
open Go
def amE:Bytes:=[99,114,101,97,116,101]
def amF:Bytes:=[117,112,100,97,116,101]
def amG:Bytes:=[100,101,108,101,116,101]
def amH:Bytes:=[100,101,102,105,110,101]
def akp:Bytes:=[117,110,100,101,102,105,110,101]
end Sp
namespace Sp
open Go
end Sp
namespace Sp
open Go
theorem aiW{l:List ay}{i:Nat}(hi:i<l.length):bQ l i∈l:=by
 grind [bQ]
theorem an0{l:List ay}{y:ay}(hy:y∈l):∃i,i<l.length/\bQ l i=y:=by obtain⟨i,hi,e⟩:=atF hy;exact⟨i,hi,by grind [bQ]⟩
theorem Py{d:List ay}:dV d=true↔(∀x∈d,eF x.1=true/\aW x.2.1=true)/\(d.Pairwise λx y=>Op.bytesLess x.1 y.1=true)/\d.length<=5:=by
 have one:∀i,iU d i=true↔(eF (bQ d i).1=true/\aW (bQ d i).2.1=true)/\(0<i->Op.bytesLess (bQ d (i-1)).1 (bQ d i).1=true):=λi=>by
  grind [iU]
 unfold dV;rw[as1,show(fK d.length (iU d)=true)↔∀i,i<d.length->iU d i=true from by
  grind [fK],ate]
 constructor
 .rintro⟨h,hl⟩;refine⟨λx hx=>?_,?_,by omega⟩
  · grind [an0]
  .exact ZJ (R:=λx y:ay=>Op.bytesLess x.1 y.1=true) (λa b c h1 h2=>FI _ _ _ h1 h2) ([],[],()) d λi hi=>((one (i+1)).1 (h (i+1) hi)).2 (by omega)
 grind [bQ,List.pairwise_iff_getElem]
def an1(d:List ay)(name:Bytes):List ay:=d.filter (alH name)
def removeDir(d:List ay)(name:Bytes):List ay×Bool:=bif dV d&&decide (0<=aG d name)then(an1 d name,true)else(d,false)
def yx(u:Int):Bool:=decide (0<=u)&&decide (u<=2)
def qp(x:ja):aA:=(x.2.1,x.2.2.1,x.2.2.2.1,x.2.2.2.2.1,x.2.2.2.2.2.1,())
def Qi(x:ja):Int:=x.2.2.2.2.2.2.1
def xQ(x:ja):ay:=(x.2.2.2.2.2.2.2.1,x.2.2.2.2.2.2.2.2.1,())
def aiT(c:jL)(x:ja):aT:=
 bif x.1==1 then(xK (mY c) (qp x)).1 else bif x.1==2 then(MZ (mY c) (qp x)).1 else bif x.1==3 then(acD (mY c) (Qi x)).1 else mY c
def alu(c:jL)(x:ja):List ay:=bif x.1==4 then(ahP (qH c) (xQ x)).1 else bif x.1==5 then(removeDir (qH c) (xQ x).1).1 else qH c
noncomputable def anp (c:jL) (u:Int) (x:ja):Bool:=
 bif x.1==1 then decide ((qp x).2.1=u)&&(xK (mY c) (qp x)).2.2 else
 bif x.1==2 then(ZK c u (qp x).1&&decide ((qp x).2.1=u))&&(MZ (mY c) (qp x)).2 else
 bif x.1==3 then ZK c u (Qi x)&&(acD (mY c) (Qi x)).2 else
 bif x.1==4 then(ahP (qH c) (xQ x)).2&&aI (ahP (qH c) (xQ x)).1 else
 bif x.1==5 then(removeDir (qH c) (xQ x).1).2 else false
noncomputable def amq (c:jL) (u:Int) (x:ja):Bool:=(yx u&&LU c)&&anp c u x
def applied(c:jL)(u:Int)(x:ja)(c':jL)(df:List LQ)(ok:Bool):Prop:=became c (aiT c x) (alu c x) (amq c u x) c' df ok
def amI(f:aA):Int:=1+f.2.2.2.2.1.length
def Vg(fs:List aA)(u:Int):Int:=((fs.filter λf=>decide (f.2.1=u)).map amI).sum
def aeo(q:List (Int×Unit))(u:Int):Int:=bif decide (0<=u)&&decide (u<=(q.length:Int)-1)then(q.getD u.toNat (0,())).1 else 0
def ai6(fs:List aA)(q:List (Int×Unit)):Bool:=decide (Vg fs 0<=aeo q 0)&&(decide (Vg fs 1<=aeo q 1)&&decide (Vg fs 2<=aeo q 2))
def ahQ(u:Int):jL->List ja->jL->Prop
 |c,[],c'=>c'=c
 |c,x::r,c'=>∃c1 df,applied c u x c1 df true/\ahQ u c1 r c'
def acI(c:jL)(u:Int)(l:List ja)(q:List (Int×Unit))(c':jL)(df:List LQ)(ok:Bool):Prop:=
 (ok=true↔LU c=true/\l.length<=6/\∃c2,ahQ u c l c2/\ai6 c2.2.1 q=true)/\(ok=true->ahQ u c l c'/\df=anq (ahM c) (ahM c'))/\(ok=false->c'=c/\df=[])
end Sp
namespace Sp
open Go
def acJ(a:dK):Bool:=gq a.1&&(gV a.2.1 a.2.2.1 a.2.2.2.1&&!(a.2.1==0))
def Vh(f:aA):Bool:=f.2.2.2.2.1.all acJ&&(nS f.1&&(nS f.2.1&&nS f.2.2.2.1))
def acK:List dK->List Bytes
 |[]=>[]
 |a::r=>a.1::ai5 a.2::acK r
def akq(f:aA):List Bytes:=Lib.itoa f.2.1::(bif f.2.2.1 then[115]else[111])::Lib.itoa f.2.2.2.1::acK f.2.2.2.2.1
def noF:aA:=(0,0,false,0,[],())
def alL(q:List aS):Bool:=aW q&&decide (alK (textOf q)=q)
def akr(x:ja):Bool:=(xQ x).1==[]&&(xQ x).2.1.isEmpty
def amJ(x:ja):List Bytes:=
 bif x.1==1&&(Vh (qp x)&&((qp x).1==0&&(Qi x==0&&akr x)))then amE::akq (qp x)
 else bif x.1==2&&(Vh (qp x)&&(Qi x==0&&akr x))then amF::Lib.itoa (qp x).1::akq (qp x)
 else bif x.1==3&&(decide (qp x=noF)&&(nS (Qi x)&&akr x))then[amG,Lib.itoa (Qi x)]
 else bif x.1==4&&(decide (qp x=noF)&&(Qi x==0&&(eF (xQ x).1&&alL (xQ x).2.1)))then amH::(xQ x).1::acH 9 (xQ x).2.1 (((xQ x).2.1.length:Int)-1)
 else bif x.1==5&&(decide (qp x=noF)&&(Qi x==0&&(eF (xQ x).1&&(xQ x).2.1.isEmpty)))then[akp,(xQ x).1]
 else[]
def afk(x:ja):Bytes:=Lib.join (amJ x) [32]
theorem aks{a:dK}:acJ a=true↔gq a.1=true/\gV a.2.1 a.2.2.1 a.2.2.2.1=true/\a.2.1≠0:=by
 grind [acJ]
theorem akt{f:aA}:Vh f=true↔(∀a∈f.2.2.2.2.1,acJ a=true)/\nS f.1=true/\nS f.2.1=true/\nS f.2.2.2.1=true:=by
 grind [Vh]
end Sp
namespace Sp
open Go
def ahR:LS->List dK
 |[]=>[]
 |[x]=>[(x.1,(Vf []).1)]
 |x::y::r=>(x.1,(Vf y.1).1)::ahR r
def ap5(id:Int)(r:LS):aA:=(id,numAt r 0,wordAt r 1==[115],numAt r 2,ahR (r.drop 3),())
def passes(x:ja)(w:LS):Prop:=afk x≠[]/\afk x=anr w
end Sp
namespace Sp
open Go
def ZL(b:UInt8):Bytes->Bytes->LS
 |cur,[]=>[(cur,())]
 |cur,x::l=>bif x==b then(cur,())::ZL b [] l else ZL b (cur++[x]) l
def pieces(b:UInt8)(s:Bytes):LS:=ZL b [] s
def alM:Bytes:=[102,105,108,101]
def amK(f:aA):Bytes:=Lib.join (alM::Lib.itoa f.1::akq f) [32]
end Sp
namespace Sp
open Go
end Sp
namespace Sp
open Go
end Sp
namespace Sp
open Go
end Sp
namespace Sp
open Go
end Sp
namespace Sp
open Go
end Sp
namespace Sp
open Go
end Sp
namespace Sp
open Go
end Sp
namespace Sp
open Go
end Sp
namespace Sp
open Go
end Sp
namespace Sp
open Go
end Sp
namespace Sp
open Go
abbrev GU:=Bool×List dK×Unit
def JV:GU:=(false,[],())
def ao0(l:List dK)(x:dK):Bool:=l.any λy=>y.1==x.1
def ao1(l:List dK)(x:dK):Bool:=l.any λy=>y.1==x.1&&!decide (y.2=x.2)
def alN(name:Bytes)(y:dK):Bool:=Op.bytesLess y.1 name
def arG(l:List dK)(x:dK):List dK:=l.takeWhile (alN x.1)++x::l.dropWhile (alN x.1)
def ahS(a:List dK):List dK->List dK->Option (List dK)
 |acc,[]=>some acc
 |acc,x::r=>bif ao1 a x then none else bif ao0 a x then ahS a acc r else ahS a (arG acc x) r
def ap6:Option (List dK)->GU
 |some l=>(true,l,())
 |none=>JV
def ao2(a b:GU):GU:=bif a.1&&b.1 then ap6 (ahS a.2.1 a.2.1 b.2.1)else JV
def arH(a b:GU):GU:=bif a.1==b.1 then JV else bif a.1 then a else b
def Oz(q:List aS)(f:aA)(X:BX)(a:Nat)(m:Bool):GU:=
 if val q f X a=m then(true,[],())
 else if(nodeAt q a).1=5 then(if h:(nodeAt q a).2.1.toNat<a then Oz q f X (nodeAt q a).2.1.toNat (!m)else JV)
 else if kN (nodeAt q a)=true then(if h:(nodeAt q a).2.1.toNat<a/\(nodeAt q a).2.2.1.toNat<a then
  (bif ((nodeAt q a).1==6)==m then ao2 (Oz q f X (nodeAt q a).2.1.toNat m) (Oz q f X (nodeAt q a).2.2.1.toNat m)
   else arH (Oz q f X (nodeAt q a).2.1.toNat m) (Oz q f X (nodeAt q a).2.2.1.toNat m))else JV)
 else if(nodeAt q a).1=3/\m=true then(true,[((nodeAt q a).2.2.2.1,(nodeAt q a).2.2.2.2.1,(nodeAt q a).2.2.2.2.2.1,(nodeAt q a).2.2.2.2.2.2.1,())],())
 else if(nodeAt q a).1=2/\m=false then(true,[((nodeAt q a).2.2.2.1,0,0,[],())],())
 else JV
termination_by a
decreasing_by all_goals omega
end Sp
namespace Sp
open Go
def ao3(a l:List dK):List dK:=l.foldl (λa x=>aiY a x.1 x.2.1 x.2.2.1 x.2.2.2.1) a
def alO(l:List dK)(i:Nat):List dK:=l.take i++l.drop (i+1)
def edited(f:aA)(l:List dK):aA:=(f.1,f.2.1,f.2.2.1,f.2.2.2.1,ao3 f.2.2.2.2.1 l,())
theorem ahT{fs:List dI}{f:aA}(h:dL fs f=true):nZ fs f.2.2.2.2.1=true:=by
 grind [dL]
end Sp
namespace Sp
open Go
theorem FO{s:aT}:bf s=true↔(∀f∈s.2.1,dL s.1 f=true/\f.1<s.2.2.1)/\(s.2.1.Pairwise λf g=>f.1<g.1)/\dO s.1=true/\s.2.1.length<=12/\1<=s.2.2.1/\s.2.2.1<=61:=by
 have at_:∀i(hi:i<s.2.1.length),fileAt s.2.1 i=s.2.1[i]:=λi hi=>by grind [fileAt]
 constructor
 .intro h;obtain⟨h1,h2,h3,h4,h5⟩:=Gy.1 h;refine⟨λf hf=>?_,?_,h2,h3,h4,h5⟩
  · grind [akj,JU]
  .refine avb.2 λi j hi hj hij=>?_;have:=alB h j i hij hj
   grind
 grind [Gy,JU,List.pairwise_iff_getElem]
theorem afT{fs:List dI}{gs:List aA}{f:aA}(h:dL fs f=true):dL fs (unlink gs f)=true:=by
 grind [dL,unlink]
theorem PS{s:aT}(u:Int)(h:bf s=true):bf (visible s u)=true:=by
 obtain⟨h1,h2,h3,h4,h5⟩:=FO.1 h;refine FO.2 ⟨λf hf=>?_,?_,h3,?_,h5⟩
 .obtain⟨g,hg,rfl⟩:=atY.1 hf;obtain⟨g1,_⟩:=auf.1 hg;exact⟨afT (h1 g g1).1,(h1 g g1).2⟩
 .show List.Pairwise _ ((s.2.1.filter (iJ · u)).map (unlink (s.2.1.filter (iJ · u))));rw[au5];exact List.Pairwise.filter _ h2
 .show((s.2.1.filter (iJ · u)).map (unlink (s.2.1.filter (iJ · u)))).length<=12
  grind
open Classical in
noncomputable def Aj (fs:List aA) (d:List ay):List bK:=if h:∃out,kH fs d [] (λ_=>true) out then h.choose else[]
theorem alv{fs:List aA}{d:List ay}{out:List bK}(hd:dV d=true)(h:kH fs d [] (λ_=>true) out):Aj fs d=out:=by
 unfold Aj;have hx:∃out,kH fs d [] (λ_=>true) out:=⟨out,h⟩
 grind [ahK]
theorem Fp{d:List ay}(h:aI d=true):dV d=true:=by
 grind [aI]
theorem afc{s:aT}{d:List ay}(h:bf s=true)(hd:aI d=true):kH s.2.1 d [] (λ_=>true) (Aj s.2.1 d):=by
 have:∃out,kH s.2.1 d [] (λ_=>true) out:=by obtain⟨au,hl⟩:=aaK (Fe (jv d) (jl.1 hd).2);exact ace [] (λ_=>true) (Fp hd) hl (BI h)
 grind [Aj]
noncomputable def an2 (s:aT) (d:List ay) (u:Int) (name:Bytes):List (Int×Unit):=dZ (Aj (visible s u).2.1 d) name
noncomputable def listed (s:aT) (d:List ay) (u:Int) (name:Bytes) (id:Int):Bool:=jh (an2 s d u name) id
def aiU(s:aT)(d:List ay)(u:Int):Prop:=bf s=true/\aI d=true/\yx u=true
def ai7(d:List ay)(name:Bytes):ay×Bool:=bif decide (aG d name<0)then(([],[],()),false)else(bQ d (aG d name).toNat,true)
def ao4(s:aT)(u id:Int):aA:=(dn (visible s u) id).1
def ap7(q:List aS)(f:aA)(X:BX)(m:Bool):GU:=bif aW q then Oz q f X (q.length-1) m else JV
noncomputable def aku (c:jL) (u:Int) (name:Bytes) (id:Int) (b:Bool):GU:=
 ap7 (ai7 (qH c) name).1.2.1 (ao4 (mY c) u id) (aY (Aj (visible (mY c) u).2.1 (qH c))) b
def ahU(c:jL)(id:Int)(l:List dK):aT×Bool:=MZ (mY c) (edited (dn (mY c) id).1 l)
noncomputable def needed (c:jL) (u:Int) (name:Bytes) (id:Int) (b:Bool) (l:List dK) (i:Nat):Bool:=
 (ahU c id (alO l i)).2&&!(listed (ahU c id (alO l i)).1 (qH c) u name id==b)
noncomputable def ao5 (c:jL) (u:Int) (name:Bytes) (id:Int) (b:Bool) (w:GU):Bool:=
 w.1&&((ahU c id w.2.1).2&&((listed (ahU c id w.2.1).1 (qH c) u name id==b)&&fK w.2.1.length (needed c u name id b w.2.1)))
noncomputable def arI (c:jL) (u:Int) (name:Bytes) (id:Int) (b:Bool):Bool:=
 (LU c&&(ZK c u id&&(ai7 (qH c) name).2))&&ao5 c u name id b (aku c u name id b)
def written(c:jL)(u:Int)(name:Bytes)(id:Int)(b:Bool)(c':jL)(set:List dK)(ok:Bool):Prop:=
 ok=arI c u name id b/\(ok=true->mY c'=(ahU c id (aku c u name id b).2.1).1/\qH c'=qH c/\LU c'=true/\set=(aku c u name id b).2.1)/\(ok=false->c'=c/\set=[])
end Sp
namespace Sp
open Go
def aep:Bytes:=[102,105,101,108,100]
def alP:Bytes:=[110,101,120,116]
def ant:Bytes:=[100,105,114]
def anu:Bytes:=[105,110,116]
def amL:Bytes:=[115,116,114,105,110,103]
def alQ(f:dI):Bytes:=bif !gq f.1 then[]else bif f.2.1==1 then aep++32::(f.1++32::anu)else bif f.2.1==2 then aep++32::(f.1++32::amL)else[]
def amM(n:Int):Bytes:=alP++32::Lib.itoa n
def an3(d:ay):Bytes:=ant++32::(d.1++32::textOf d.2.1)
def ao6(x:jF):List Bytes:=x.1.map alQ++(amM x.2.2.1::(x.2.1.map amK++x.2.2.2.1.map an3))
noncomputable def enc (x:jF):LS:=bif FK x then ls (ao6 x)else[]
def acL:jF:=([],[],0,[],())
def ap8(x:jF)(w:LS):jF:=
 bif wordAt w 0==aep then(x.1++[(wordAt w 1,(bif wordAt w 2==anu then 1 else 2),())],x.2.1,x.2.2.1,x.2.2.2.1,())
 else bif wordAt w 0==alP then(x.1,x.2.1,numAt w 1,x.2.2.2.1,())
 else bif wordAt w 0==alM then(x.1,x.2.1++[ap5 (numAt w 1) (w.drop 2)],x.2.2.1,x.2.2.2.1,())
 else bif wordAt w 0==ant then(x.1,x.2.1,x.2.2.1,x.2.2.2.1++[(wordAt w 1,(bif decide (2<(w.length:Int))then alK (anr (w.drop 2))else[]),())],())
 else x
def akv:jF->LS->jF
 |x,[]=>x
 |x,l::r=>akv (ap8 x (aoW l.1)) r
noncomputable def dec (l:LS):jF×Bool:=bif FK (akv acL l)&&decide (enc (akv acL l)=l)then(akv acL l,true)else(acL,false)
theorem akw{x:jF}(h:FK x=true):(∀f∈x.1,gq f.1=true/\(f.2.1=1\/f.2.1=2))/\(∀f∈x.2.1,Vh f=true/\f.2.2.2.2.1.length<=5)/\nS x.2.2.1=true/\(∀d∈x.2.2.2.1,eF d.1=true/\aW d.2.1=true)/\x.1.length<=5/\x.2.1.length<=12/\x.2.2.2.1.length<=5:=by
 unfold FK at h;rw[as1]at h;obtain⟨hs,hd⟩:=h;obtain⟨s1,_,s3,s4,s5,s6⟩:=FO.1 hs;have s1:∀f∈x.2.1,dL x.1 f=true/\f.1<x.2.2.1:=s1;have s3:dO x.1=true:=s3;have s5:1<=x.2.2.1:=s5;have s6:x.2.2.1<=61:=s6;obtain⟨d1,_,d3⟩:=Py.1 (jl.1 hd).1;obtain⟨k1,k2⟩:=ahJ.1 s3;have kf:∀f∈x.1,gq f.1=true/\(f.2.1=1\/f.2.1=2):=λf hf=>by
  grind [List.getElem_of_mem,iL,fieldAt]
 refine⟨kf,λf hf=>?_,Qh.2 (by omega),d1,k2,s4,d3⟩;obtain⟨f1,_⟩:=s1 f hf;have fa:=ahT f1;have hl:=amC fa;refine⟨akt.2 ⟨λa ha=>?_,?_⟩,by omega⟩
 .have hm:=(XG.1 fa).1 a ha;unfold gK at hm;simp only[as1,Bool.not_eq_true',ate,atc]at hm;have hk:=Qg (fs:=x.1) (s:=a.1) (by omega)
  grind [aks]
 grind [dL,Qh]
end Sp
namespace Sp
open Go
def sumOf(s:Bytes):Int:=s.foldl (λn b=>(33*n+(b.toNat:Int)).tmod 65521) 3
def linesT(ws:List Bytes):Bytes:=(ws.map (· ++[10])).flatten
def ahV(n:Int)(x:jF):Bytes:=linesT (Lib.itoa n::ao6 x)
noncomputable def slot (n:Int) (x:jF):Bytes:=bif FK x&&(decide (1<=n)&&decide (n<=1000000000))then ahV n x++(Lib.itoa (sumOf (ahV n x))++[46])else[]
def inner(l:LS):LS:=(l.take (l.length-1)).drop 1
noncomputable def yL (s:Bytes):Int×jF×Bool:=
 bif decide (2<=(pieces 10 s).length)&&((dec (inner (pieces 10 s))).2&&decide (slot (parseNum ((pieces 10 s).getD 0 ([],())).1) (dec (inner (pieces 10 s))).1=s))then(parseNum ((pieces 10 s).getD 0 ([],())).1,(dec (inner (pieces 10 s))).1,true)else(0,acL,false)
noncomputable def latest (a b:Bytes):Int×jF×Bool×Bool:=
 bif (yL b).2.2&&(!(yL a).2.2||decide ((yL a).1<(yL b).1))then((yL b).1,(yL b).2.1,true,false)else((yL a).1,(yL a).2.1,(yL a).2.2,(yL a).2.2)
def kept(keep:Int)(n:Nat):Nat:=(max 0 (min keep (n:Int))).toNat
noncomputable def oV (a b:Bytes) (x:jF):Bytes:=slot ((latest a b).1+1) x
noncomputable def afl (a b:Bytes) (x:jF) (keep:Int):(Bytes×Bytes×Unit)×Bool×Unit:=
 bif oV a b x==[]then((a,b,()),false,())else
 bif (latest a b).2.2.2 then((a,(oV a b x).take (kept keep (oV a b x).length),()),(oV a b x).take (kept keep (oV a b x).length)==oV a b x,())else
 (((oV a b x).take (kept keep (oV a b x).length),b,()),(oV a b x).take (kept keep (oV a b x).length)==oV a b x,())
end Sp
namespace Sp
open Go
abbrev yu:=Int×List (Int×Unit)×List (Int×Unit)×Unit
abbrev iw:=Int×Bytes×List (Int×Unit)×List yu×Unit
abbrev iE:=List dI×List aA×Int×List ay×List bK×Bytes×Bytes×Int×List jA×List iw×List (Int×Unit)×Unit
def JW(x:iE):jL:=(x.1,x.2.1,x.2.2.1,x.2.2.2.1,x.2.2.2.2.1,())
def af9(x:iE):jF:=(x.1,x.2.1,x.2.2.1,x.2.2.2.1,())
def VG(c:jL):jF:=(c.1,c.2.1,c.2.2.1,c.2.2.2.1,())
def uq(x:iE):Bytes:=x.2.2.2.2.2.1
def uw(x:iE):Bytes:=x.2.2.2.2.2.2.1
def JX(x:iE):Int:=x.2.2.2.2.2.2.2.1
def xR(x:iE):List jA:=x.2.2.2.2.2.2.2.2.1
def Vj(x:iE):List iw:=x.2.2.2.2.2.2.2.2.2.1
def Qj(x:iE):List (Int×Unit):=x.2.2.2.2.2.2.2.2.2.2.1
def mkS(c:jL)(a b:Bytes)(n:Int)(vs:List jA)(ws:List iw)(q:List (Int×Unit)):iE:=
 (c.1,c.2.1,c.2.2.1,c.2.2.2.1,c.2.2.2.2.1,a,b,n,vs,ws,q,())
def ap9(l:List (Int×Unit))(e:yu):List (Int×Unit):=amB l e.2.1 e.2.2.1
def replay(l:List (Int×Unit))(es:List yu):List (Int×Unit):=es.foldl ap9 l
def listing(w:iw):List (Int×Unit):=replay w.2.2.1 w.2.2.2.1
noncomputable def dR (s:aT) (d:List ay) (u:Int):List bK×Bool:=bif bf s&&(aI d&&yx u)then(Aj (visible s u).2.1 d,true)else([],false)
noncomputable def jB (s:aT) (d:List ay) (u:Int) (name:Bytes):List (Int×Unit):=dZ (dR s d u).1 name
def told(w:iw)(n:Int)(l:List (Int×Unit)):iw:=
 bif decide (0<(without l (listing w)).length+(without (listing w) l).length)then(w.1,w.2.1,w.2.2.1,w.2.2.2.1++[(n,without l (listing w),without (listing w) l,())],())else w
def rise(l:List (Int×Unit)):Bool:=fK (l.length-1) λi=>decide ((l.getD i (0,())).1<(l.getD (i+1) (0,())).1)
def Qk(es:List yu)(i:Nat):yu:=es.getD i (0,[],[],())
def ao7(l:List (Int×Unit))(es:List yu)(i:Nat):Bool:=
 !decide ((Qk es i).2.1.length+(Qk es i).2.2.1.length=0)&&(rise (Qk es i).2.1&&(rise (Qk es i).2.2.1&&(!(decide (0<i)&&decide ((Qk es (i-1)).1>=(Qk es i).1))&&
   (((Qk es i).2.1.all λx=>!jh (replay l (es.take i)) x.1)&&(Qk es i).2.2.1.all λx=>jh (replay l (es.take i)) x.1))))
def an4(w:iw):Bool:=(yx w.1&&rise w.2.2.1)&&fK w.2.2.2.1.length (ao7 w.2.2.1 w.2.2.2.1)
def anv(w:iw):Int:=bif decide (w.2.2.2.1.length=0)then 0 else(Qk w.2.2.2.1 (w.2.2.2.1.length-1)).1
noncomputable def VH (a b:jF):Bool:=decide (enc a=enc b)
def an5(q:List (Int×Unit)):Bool:=decide (q.length=3)&&q.all λx=>decide (0<=x.1)&&decide (x.1<=999)
noncomputable def alR (s:aT) (d:List ay) (n:Int) (w:iw):Bool:=decide (anv w<=n)&&(an4 w&&decide (listing w=jB s d w.1 w.2.1))
noncomputable def akx (x:iE):Bool:=
 LU (JW x)&&((latest (uq x) (uw x)).2.2.1&&(decide ((latest (uq x) (uw x)).1=JX x)&&(VH (latest (uq x) (uw x)).2.1 (af9 x)&&
  (ahE (xR x)&&(decide (xR x≠[])&&(decide ((Vj x).length<=4)&&(an5 (Qj x)&&
    ((decide ((BL (xR x) ((xR x).length-1)).1=JX x)&&VH (aiZ (BL (xR x) ((xR x).length-1))) (af9 x))&&
      (Vj x).all (alR (mY (JW x)) (qH (JW x)) (JX x))))))))))
def anw(n:Int)(s:jF):jA:=(n,s.1,s.2.1,s.2.2.1,s.2.2.2.1,0,())
noncomputable def toldAll (s:aT) (d:List ay) (n:Int) (ws:List iw):List iw:=ws.map λw=>told w n (jB s d w.1 w.2.1)
noncomputable def anx (vs:List jA):List jA:=bif decide (6<=vs.length)then collect vs else vs
noncomputable def ahW (a b:Bytes) (s:jF):Bytes×Bytes×Unit:=(afl a b s 1000000).1
noncomputable def commit (x:iE) (c:jL):iE×Bool:=
 bif !(akx x&&LU c)then(x,false)else
 bif VH (VG c) (af9 x)then(x,true)else
 bif decide (1000000000<=JX x)||decide (6<=(anx (xR x)).length)then(x,false)else
 (mkS c (ahW (uq x) (uw x) (VG c)).1 (ahW (uq x) (uw x) (VG c)).2.1 (JX x+1) (anx (xR x)++[anw (JX x+1) (VG c)]) (toldAll (mY c) (qH c) (JX x+1) (Vj x)) (Qj x),true)
noncomputable def aqa (s:jF):jL:=(s.1,s.2.1,s.2.2.1,s.2.2.2.1,Aj s.2.1 s.2.2.2.1,())
noncomputable def amN (s:aT) (d:List ay) (n:Int) (w:iw):iw:=bif decide (anv w<n)then told w n (jB s d w.1 w.2.1)else w
noncomputable def recover (x:iE):iE×Bool:=
 bif (latest (uq x) (uw x)).2.2.1 then
  (mkS (aqa (latest (uq x) (uw x)).2.1) (uq x) (uw x) (latest (uq x) (uw x)).1 [anw (latest (uq x) (uw x)).1 (latest (uq x) (uw x)).2.1]
    ((Vj x).map (amN (U7 (latest (uq x) (uw x)).2.1) (latest (uq x) (uw x)).2.1.2.2.2.1 (latest (uq x) (uw x)).1)) (Qj x),true)
 else(x,false)
def amO(x:iE)(d:Bytes×Bytes×Unit):iE:=mkS (JW x) d.1 d.2.1 (JX x) (xR x) (Vj x) (Qj x)
def ZM(x:iE)(v:List jA):iE:=mkS (JW x) (uq x) (uw x) (JX x) v (Vj x) (Qj x)
def amP(x:iE)(w:List iw):iE:=mkS (JW x) (uq x) (uw x) (JX x) (xR x) w (Qj x)
def aqb(x:iE)(u:Int)(ops:List ja)(y:iE)(ok:Bool):Prop:=
 ∃c df o,acI (JW x) u ops (Qj x) c df o/\(y,ok)=bif o then commit x c else(x,false)
def crashed(x:iE)(u:Int)(ops:List ja)(keep:Int)(y:iE)(ok:Bool):Prop:=
 bif akx x then∃c df o,acI (JW x) u ops (Qj x) c df o/\(y,ok)=recover (bif o&&!VH (VG c) (af9 x)then amO x (afl (uq x) (uw x) (VG c) keep).1 else x)else y=x/\ok=false
def amQ(x:iE)(u:Int)(name:Bytes)(id:Int)(b:Bool)(y:iE)(ok:Bool):Prop:=
 ∃c set o,written (JW x) u name id b c set o/\(y,ok)=bif o&&ai6 c.2.1 (Qj x)then commit x c else(x,false)
abbrev amR:=Int×Int×List ja×Bytes×Int×Unit
def aqc(a:amR):Bool:=(decide (1<=a.1)&&decide (a.1<=8))&&decide (a.2.2.1.length<=6)
noncomputable def watched (x:iE) (u:Int) (name:Bytes):iE×Bool:=
 bif decide (4<=(Vj x).length)||!yx u then(x,false)else(amP x (Vj x++[(u,name,jB (mY (JW x)) (qH (JW x)) u name,[],())]),true)
def aqd(x:iE)(a:amR)(y:iE)(ok:Bool):Prop:=
 bif !(aqc a&&akx x)then y=x/\ok=false else
 bif a.1==1 then aqb x a.2.1 a.2.2.1 y ok else
 bif a.1==2 then crashed x a.2.1 a.2.2.1 a.2.2.2.2.1 y ok else
 bif a.1==3 then(y,ok)=watched x a.2.1 a.2.2.2.1 else
 bif a.1==4 then y=ZM x (acF (xR x) a.2.2.2.2.1 1).1/\ok=(acF (xR x) a.2.2.2.2.1 1).2 else
 bif a.1==5 then y=ZM x (acF (xR x) a.2.2.2.2.1 (-1)).1/\ok=(acF (xR x) a.2.2.2.2.1 (-1)).2 else
 bif a.1==6 then y=ZM x (collect (xR x))/\ok=true else
 amQ x a.2.1 a.2.2.2.1 a.2.2.2.2.1 (a.1==7) y ok
def runs:iE->List amR->iE->List (Bool×Unit)->List (Int×Unit)->Prop
 |x,[],y,t,l=>y=x/\t=[]/\l=[]
 |x,a::r,y,t,l=>∃x1 ok t' l',aqd x a x1 ok/\runs x1 r y t' l'/\t=(ok,())::t'/\l=(JX x1,())::l'
end Sp
namespace Sp
open Go
end Sp
namespace Sp
open Go
theorem amS{x:jF}(h:FK x=true):aoP x:=by obtain⟨p1,p2,p3,p4,p5,p6,p7⟩:=akw h;refine⟨⟨as3 p5 (by decide),as3 p6 (by decide),λf hf=>as3 (p2 f hf).2 (by decide)⟩,as3 p7 (by decide),λd hd=>as3 (yK (p4 d hd).2).2 (by decide)⟩
end Sp
namespace Sp
open Go
def RX:dI->Nat|(n,_,_)=>n.length
def o9(a:List dI):Nat:=fB RX a
def Cm(a:List aA):Nat:=fB Iq a
def zW:aT->Nat|(a,l,_,_)=>o9 a+Cm l
def qA(a:List ay):Nat:=fB Hz a
def acR:bK->Nat|(n,l,_)=>n.length+l.length
def Ez(a:List bK):Nat:=fB acR a
def RY:jL->Nat|(a,l,n,d,r,_)=>zW (a,l,n,())+(qA d+Ez r)
def KC:jF->Nat|(a,l,n,d,_)=>zW (a,l,n,())+qA d
def acS:jA->Nat|(_,a,l,n,d,_,_)=>KC (a,l,n,d,())
def uY(a:List jA):Nat:=fB acS a
def GZ:yu->Nat|(_,a,b,_)=>a.length+b.length
def DZ(a:List yu):Nat:=fB GZ a
def uD:iw->Nat|(_,n,l,e,_)=>n.length+(l.length+DZ e)
def pq(a:List iw):Nat:=fB uD a
def zU:iE->Nat|(a,l,n,d,r,da,db,_,v,w,q,_)=>RY (a,l,n,d,r,())+((da.length+db.length)+(uY v+(pq w+q.length)))
def fF(d:List ay):Prop:=d.length<=2000000/\∀x∈d,x.2.1.length<=2000000
theorem Ag{d:List ay}(h:dV d=true):qW d:=by obtain⟨h1,_,h3⟩:=Py.1 h;exact⟨as3 h3 (by decide),λx hx=>as3 (yK (h1 x hx).2).2 (by decide)⟩
theorem afb{d:List ay}(h:qW d):fF d:=⟨as3 h.1 (by decide),λx hx=>as3 (h.2 x hx) (by decide)⟩
theorem DL{s:aT}(h:bf s=true):dH s:=by
 have hp:FK (s.1,s.2.1,s.2.2.1,[],())=true:=by unfold FK;rw[as1];refine⟨h,?_⟩;rw[jl];exact⟨rfl,λ_=>0,λe he=>by cases he⟩
 exact(amS hp).1
def XK(f:aA):Prop:=f.2.2.2.2.1.length<=2000000
theorem IY{f:aA}(h:Oq f):XK f:=as3 h (by decide)
end Sp
namespace Sp
open Go
def markT(k:Int):Bytes:=109::Lib.itoa k
end Sp
namespace Sp
open Go
def Um:iw->Bytes|(u,n,l,_,_)=>withIds ([119,97,116,99,104,32]++Lib.itoa u++[32]++n) l
def ahp(e:yu):Bytes:=GY e.1 e.2.1 e.2.2.1
def oN(w:iw):List (Bytes×Unit):=(Um w,())::w.2.2.2.1.map λe=>(ahp e,())
def Ip:List (Bytes×Unit)->Int->Int
 |[],k=>k
 |s::r,k=>if s.1=markT k then Ip r (k+1)else -1
end Sp
namespace Sp
open Go
def aP(s:aT)(id:Int):Bytes:=baseName (dn s id).1
def entryOf(s:aT)(seen:LS)(id:Int):Bytes:=bif lG seen (aP s id)then aP s id++([46]++Lib.itoa id)else aP s id
def bases(s:aT)(ids:LI):LS:=ids.map λi=>(aP s i.1,())
def qP(s:aT):LS->LI->LS
 |_,[]=>[]
 |seen,i::r=>(entryOf s seen i.1,())::qP s (seen++[(aP s i.1,())]) r
def entries(s:aT)(ids:LI):LS:=qP s [] ids
def qo:LS->Bytes
 |[]=>[]
 |e::r=>[32]++e.1++qo r
noncomputable def zT (s:aT) (d:List ay) (u:Int) (name:Bytes):Bytes:=name++qo (entries (visible s u) (jB s d u name))
noncomputable def aj (s:aT) (d:List ay) (u:Int):LS:=bif (dR s d u).2 then d.map (λx=>(zT s d u x.1,()))else[]
noncomputable def ao8 (s:aT) (d:List ay) (u:Int):LS:=([117,115,101,114,32]++Lib.itoa u,())::aj s d u
noncomputable def oh (s:aT) (d:List ay):Nat->LS
 |0=>[]
 |n+1=>oh s d n++ao8 s d n
def jo:List iw->LS
 |[]=>[]
 |w::r=>oN w++jo r
noncomputable def F5 (x:iE):LS:=([118,101,114,115,105,111,110,32]++Lib.itoa x.2.2.2.2.2.2.2.1,())::(oh (x.1,x.2.1,x.2.2.1,()) x.2.2.2.1 3++jo x.2.2.2.2.2.2.2.2.2.1)
def qy(s:aT):Prop:=∀f∈s.2.1,∀a∈f.2.2.2.2.1,a.2.2.2.1.length<=2000000
theorem XI{B:Nat}{n:Bytes}:∀{as:List dK},(∀a∈as,a.2.2.2.1.length<=B)->(bU as n).2.2.1.length<=B
 |[],_=>atl _
 |a::r,h=>by
  rw[bU];cases a.1==n with
  |true=>exact h a as9
  |false=>exact XI λb hb=>h b (as8 _ hb)
theorem Zj{s:aT}(h:qy s)(id:Int):(aP s id).length<=2000000:=by
 unfold aP baseName;cases (bU (dn s id).1.2.2.2.2.1 [110]).1==2 with
 |false=>exact(show 4<=2000000 by decide)
 |true=>
  refine XI λa ha=>?_;cases hk:(dn s id).2 with
  |true=>exact h _ (ait hk).1 a ha
  |false=>
   have e:(dn s id).1=abY:=by
    unfold dn at hk ⊢;cases hd:decide (place s.2.1 id<0)with
    |true=>rfl
    |false=>rw[hd]at hk;cases hk
   rw[e]at ha;cases ha
theorem GN{s:aT}(h:qy s)(u:Int):qy (visible s u):=λf hf a ha=>by obtain⟨g,hg,rfl⟩:=atY.1 hf;exact h g (auf.1 hg).1 a ha
theorem alS{s:aT}(h:qy s)(seen:LS){id:Int}(hi:(Lib.itoa id).length<=21):(entryOf s seen id).length<=2000022:=by
 have:=Zj h id;unfold entryOf;cases lG seen (aP s id)with
 |true=>show(_++([46]++_)).length<=_;simp only[as4,asY,as6];omega
 |false=>show(aP s id).length<=_;omega
theorem JY(s:aT):∀(seen:LS)(ids:LI)(n:Nat)(h:n<ids.length),qP s seen (ids.take (n+1))=qP s seen (ids.take n)++[(entryOf s (seen++bases s (ids.take n)) ids[n].1,())]
 |seen,i::r,0,_=>by simp[qP,bases]
 |seen,i::r,n+1,h=>by have:=JY s (seen++[(aP s i.1,())]) r n (by simpa using h);simp only[auj,qP,this,atP,bases,att,atz,at6,List.getElem_cons_succ]
theorem UE(s:aT)(ids:LI)(n:Nat)(h:n<ids.length):entries s (ids.take (n+1))=entries s (ids.take n)++[(entryOf s (bases s (ids.take n)) (ids.getD n (0,())).1,())]:=by unfold entries;rw[JY s [] ids n h,at6,atn,as5 h];rfl
theorem LJ(s:aT):∀(seen:LS)(ids:LI),(qP s seen ids).length=ids.length
 |_,[]=>rfl
 |seen,i::r=>congrArg (· +1) (LJ s _ r)
theorem FB{s:aT}(h:qy s):∀(seen:LS)(ids:LI),oK ids->∀e∈qP s seen ids,e.1.length<=2000022
 |_,[],_,e,he=>by cases he
 |seen,i::r,hi,e,he=>by
  rcases atw.1 he with rfl|he
  .exact alS h _ (Lib.itoa_length_le _ (hi i as9).1 (hi i as9).2)
  .exact FB h _ r (λx hx=>hi x (as8 _ hx)) e he
theorem Qz:∀a b:LS,qo (a++b)=qo a++qo b
 |[],b=>rfl
 |e::a,b=>by simp only[atP,qo,Qz a b,atz]
theorem ab3{B:Nat}:∀l:LS,(∀e∈l,e.1.length<=B)->(qo l).length<=(B+1)*l.length
 |[],_=>atl _
 |e::l,h=>by have h1:=h e as9;have h2:=ab3 l λx hx=>h x (as8 _ hx);simp only[qo,as4,asY,as6,Nat.mul_add];omega
theorem JM:∀a b:List iw,jo (a++b)=jo a++jo b
 |[],b=>rfl
 |e::a,b=>by simp only[atP,jo,JM a b,atz]
theorem afU(w:iw):(oN w).length=w.2.2.2.1.length+1:=by simp[oN]
theorem aiu(s:aT)(d:List ay)(u:Int)(name:Bytes):∀i∈jB s d u name,1<=i.1/\i.1<=60:=by
 unfold jB dR;cases h:bf s&&(aI d&&yx u)with
 |false=>exactλi hi=>by cases hi
 |true=>
  simp only[as1]at h;have hv:=PS u h.1;have e:=afc hv h.2.1;have hd:=Fp h.2.1;show∀i∈dZ (Aj (visible s u).2.1 d) name,_;by_cases hn:∃i,i<d.length/\nameOf d i=name
  .obtain⟨j,hj,rfl⟩:=hn;rw[uM hd e.order hj,e.fix j hj rfl];intro i hi;obtain⟨f,hf,rfl⟩:=atY.1 hi;exact alA ((FO.1 hv).1 f (auf.1 hf).1).1
  .rw[LY e.order (s:=name) λi hi e=>hn ⟨i,hi,e⟩];exactλi hi=>by cases hi
theorem Xu(s:aT)(d:List ay)(u:Int)(name:Bytes):oK (jB s d u name):=λi hi=>by have:=aiu s d u name i hi;omega
theorem alq(a:LS)(x b:Bytes):lG (a++[(x,())]) b=(lG a b||x==b):=by unfold lG;rw[List.any_append];simp
theorem Xv{s:aT}{d:List ay}{B:Nat}(h:d.length<=B):∀n,(oh s d n).length<=n*(B+1)
 |0=>atl _
 |n+1=>by
  have h1:=Xv (s:=s) h n;have h2:(aj s d n).length<=d.length:=by
   unfold aj;cases (dR s d n).2 with
   |false=>exact atl _
   |true=>exact Nat.le_of_eq (atb _)
  show(oh s d n++_::aj s d n).length<=_;rw[as4,asY,at1];omega
theorem DK:∀ws:List iw,(jo ws).length<=pq ws
 |[]=>as7 _
 |(_,n,l,e,_)::ws=>by
  have h1:=DK ws;have h2:e.length<=DZ e:=by
   clear h1
   induction e with
   |nil=>exact as7 _
   |cons x r ih=>show r.length+1<=1+GZ x+fB GZ r;have ih:r.length<=fB GZ r:=ih;omega
  show(oN _++jo ws).length<=1+(n.length+(l.length+DZ e))+pq ws;rw[as4,afU];show e.length+1+_<=_;omega
end Sp
namespace Go.Fw
open Go
theorem eqL{α β:Type}(e:α->α->Bool)(he:∀x y,e x y=false↔x=y)(d:α)(a b:List α)[Decidable (a=b)](t:β)(hlen:a.length<=maxLen){K:Bool×Unit->Prop}(hK:K (decide (a=b),())):
 bif ((a.length:Int)) !=(b.length:Int)then K (false,())else
 ∃(I:(Int×Unit)×Unit->Prop),∃(μ:(Int×Unit)×Unit->Nat),I (((0:Int),()),())/\∀(y:(Int×Unit)×Unit),I y->
  bif decide (y.fst.fst<(a.length:Int))then
   ((0:Int)<=y.fst.fst/\y.fst.fst<(a.length:Int))/\((0:Int)<=y.fst.fst/\y.fst.fst<(b.length:Int))/\
     (bif e (a.getD (Int.toNat y.fst.fst) d) (b.getD (Int.toNat y.fst.fst) d)then K (false,())
     else t=t/\I ((IntKind.i64.wrap (y.fst.fst+(1:Int)),()),())/\μ ((IntKind.i64.wrap (y.fst.fst+(1:Int)),()),())<μ y)
  else K (true,()):=by
 refine af (λh=>?_) λh=>?_
 .have h:(a.length:Int)≠b.length:=by simpa using h
  rw[atp λe=>h (by rw[e])]at hK;exact hK
 .have h:(a.length:Int)=b.length:=by simpa using h
  exact aiV e he d a b t hlen (by omega) (λe=>by grind) λe=>by grind
theorem ao9{α β:Type}(p:α->Bool)(d:α)(a:List α)(t:β)(hlen:a.length<=maxLen){K:Int×Unit->Prop}(hK:K (Sp.findAt p a,())):
 ∃(I:(Int×Unit)×Unit->Prop),∃(μ:(Int×Unit)×Unit->Nat),I (((0:Int),()),())/\∀(y:(Int×Unit)×Unit),I y->
  bif decide (y.fst.fst<(a.length:Int))then
   ((0:Int)<=y.fst.fst/\y.fst.fst<(a.length:Int))/\True/\
     (bif p (a.getD (Int.toNat y.fst.fst) d)then K (y.fst.fst,())
     else t=t/\I ((IntKind.i64.wrap (y.fst.fst+(1:Int)),()),())/\μ ((IntKind.i64.wrap (y.fst.fst+(1:Int)),()),())<μ y)
  else K ((-1:Int),()):=by
 refine eP a.length hlen (λn=>∀i,i<n->p (a.getD i d)=false) (λi hi=>by omega) (λI μ n hn hJ next=>?_) λI μ hJ=>?_
 · grind [Sp.afh]
 .dsimp only;refine bV (by omega) ?_;rw[Sp.XD hJ]at hK;exact hK
theorem alm{α β:Type}(p:α->Bool)(d:α)(a:List α)(t:β)(hlen:a.length<=maxLen){K:Int×Unit->Prop}(hK:K (Sp.findAt p a,())):
 ∃(I:(Int×Unit)×Unit->Prop),∃(μ:(Int×Unit)×Unit->Nat),I (((0:Int),()),())/\∀(y:(Int×Unit)×Unit),I y->
  bif decide (y.fst.fst<(a.length:Int))then
   ((0:Int)<=y.fst.fst/\y.fst.fst<(a.length:Int))/\
     (bif p (a.getD (Int.toNat y.fst.fst) d)then K (y.fst.fst,())
     else t=t/\I ((IntKind.i64.wrap (y.fst.fst+(1:Int)),()),())/\μ ((IntKind.i64.wrap (y.fst.fst+(1:Int)),()),())<μ y)
  else K ((-1:Int),()):=by
 obtain⟨I,μ,h0,h1⟩:=ao9 p d a t hlen hK;refine⟨I,μ,h0,λy hy=>?_⟩
 grind
end Go.Fw
namespace Go.Fw
open Go
theorem arB{α β:Type}(p:α->Bool)(d:α)(a:List α)(t:β)(hlen:a.length<=maxLen){K:Bool×Unit->Prop}(hK:K (a.any p,())):
 ∃(I:(Int×Unit)×Unit->Prop),∃(μ:(Int×Unit)×Unit->Nat),I (((0:Int),()),())/\∀(y:(Int×Unit)×Unit),I y->
  bif decide (y.fst.fst<(a.length:Int))then
   ((0:Int)<=y.fst.fst/\y.fst.fst<(a.length:Int))/\
     (bif p (a.getD (Int.toNat y.fst.fst) d)then K (true,())
     else t=t/\I ((IntKind.i64.wrap (y.fst.fst+(1:Int)),()),())/\μ ((IntKind.i64.wrap (y.fst.fst+(1:Int)),()),())<μ y)
  else K (false,()):=by
 refine eP a.length hlen (λn=>∀i,i<n->p (a.getD i d)=false) (λi hi=>by omega) (λI μ n hn hJ next=>?_) λI μ hJ=>?_
 · grind
 grind [List.getElem_of_mem]
theorem ahq{α:Type}(p:α->Bool)(s:List α):decide (Sp.findAt p s>=0)=s.any p:=by
 cases hs:s with
 |nil=>rfl
 |cons d r=>
  rcases Sp.ahI p d s with⟨e,h⟩|⟨n,hn,e,h1,h2⟩
  · grind [List.getElem_of_mem]
  grind
theorem aiv{α:Type}(p:α->Bool)(d:α)(l:List α){n:Nat}(h:n<l.length):(l.take (n+1)).filter p=(l.take n).filter p++(bif p (l.getD n d)then[l.getD n d]else[]):=by
 grind [Sp.take_succ']
theorem Y9{α β δ:Type}(p:α->Bool)(g:α->β)(d:α)(a:List α)(t:δ){A:Int->Prop}(hA:∀n:Nat,n<a.length->A n)(hlen:a.length<=4000000){K:List β×Unit->Prop}(hK:K ((a.filter p).map g,())):
 ∃(I:(Unit×Int×Unit)×List β×Unit->Prop),∃(μ:(Unit×Int×Unit)×List β×Unit->Nat),I (((),(0:Int),()),[],())/\∀(y:(Unit×Int×Unit)×List β×Unit),I y->
  bif decide (y.1.2.1<(a.length:Int))then
   ((0:Int)<=y.1.2.1/\y.1.2.1<(a.length:Int))/\A y.1.2.1/\
     (bif p (a.getD (Int.toNat y.1.2.1) d)then List.length y.2.1+1<=big/\t=t/\I (((),IntKind.i64.wrap (y.1.2.1+(1:Int)),()),y.2.1++[g (a.getD (Int.toNat y.1.2.1) d)],())/\μ (((),IntKind.i64.wrap (y.1.2.1+(1:Int)),()),y.2.1++[g (a.getD (Int.toNat y.1.2.1) d)],())<μ y
     else t=t/\I (((),IntKind.i64.wrap (y.1.2.1+(1:Int)),()),y.2)/\μ (((),IntKind.i64.wrap (y.1.2.1+(1:Int)),()),y.2)<μ y)
  else K y.2:=by
 refine eH (λi(x:List β)=>(((),i,()),x,())) (λy=>y.1.2.1) (λ_ _=>rfl) a.length (by omega) (λn l=>l=((a.take n).filter p).map g) (by simp) (λI μ n l hn hJ next=>?_) λI μ l hJ=>?_
 .subst hJ;have hl:(((a.take n).filter p).map g).length<=n:=by
   grind
  have step:=aiv p d a hn;dsimp only;refine bY (by omega) ⟨⟨by omega,by omega⟩,hA n hn,af (λh=>⟨by rw[dm];omega,rfl,next _ ?_⟩) λh=>⟨rfl,next _ ?_⟩⟩
  · simp_all
  grind
 grind
theorem arC{α β δ:Type}(g:α->β)(d:α)(a:List α)(t:δ)(hlen:a.length<=4000000){K:List β×Unit->Prop}(hK:K (a.map g,())):
 ∃(I:(Unit×Int×Unit)×List β×Unit->Prop),∃(μ:(Unit×Int×Unit)×List β×Unit->Nat),I (((),(0:Int),()),[],())/\∀(y:(Unit×Int×Unit)×List β×Unit),I y->
  bif decide (y.1.2.1<(a.length:Int))then
   ((0:Int)<=y.1.2.1/\y.1.2.1<(a.length:Int))/\
     List.length y.2.1+1<=big/\t=t/\I (((),IntKind.i64.wrap (y.1.2.1+(1:Int)),()),y.2.1++[g (a.getD (Int.toNat y.1.2.1) d)],())/\μ (((),IntKind.i64.wrap (y.1.2.1+(1:Int)),()),y.2.1++[g (a.getD (Int.toNat y.1.2.1) d)],())<μ y
  else K y.2:=by
 obtain⟨I,μ,h0,h1⟩:=Y9 (λ_=>true) g d a t (A:=λ_=>True) (λ_ _=>trivial) hlen (K:=K) (by grind [List.filter_eq_self]);refine⟨I,μ,h0,λy hy=>?_⟩
 grind
end Go.Fw
