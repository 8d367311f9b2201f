import Derived.Test.YtgnfgfokndjepaaDoorFwA
import Derived.Lib.ItoaNum
import Derived.Lib.ItoaLen
import Derived.Lib.Join
import Derived.Test.YtgnfgfokndjepaaDoorFwC
import Derived.Lib.Fields
import Derived.Lib.Atoi
import Derived.Lib.SplitLaws
namespace Sp
open Go
abbrev Bytes:=List UInt8
abbrev LI:=List (Int×Unit)
abbrev LS:=List (Bytes×Unit)
def aO(n:Nat)(left:Int):Int:=if left-n<0 then -1 else left-n
def marked(p:Bytes):LI->Bytes
 |[]=>[]
 |x::r=>p++Lib.itoa x.1++marked p r
def qH(v:Int)(a r:LI):Bytes:=Lib.itoa v++marked [32,43] a++marked [32,45] r
def dH:LI->Bytes
 |[]=>[]
 |x::r=>Lib.itoa x.1++marked [32] r
def withIds(s:Bytes)(ids:LI):Bytes:=if ids.isEmpty then s else s++[32]++dH ids
theorem take_succ'{α:Type}(a:List α)(n:Nat)(d:α)(h:n<a.length):a.take (n+1)=a.take n++[a.getD n d]:=by rw[Zy h,Zq,Zf h];rfl
theorem yu(p:Bytes):∀(a b:LI),marked p (a++b)=marked p a++marked p b
 |[],b=>rfl
 |x::a,b=>by simp only[ZO,marked,yu p a b,ZM]
theorem nS(p:Bytes)(a:LI)(n:Nat)(d:Int×Unit)(h:n<a.length):marked p (a.take (n+1))=marked p (a.take n)++(p++Lib.itoa (a.getD n d).1):=by rw[take_succ' a n d h,yu];simp[marked]
def jH(l:LI):Prop:=∀x∈l,-9223372036854775808<=x.1/\x.1<=9223372036854775807
theorem xK(p:Bytes):∀(a:LI),jH a->(marked p a).length<=(p.length+21)*a.length
 |[],_=>by simp[marked]
 |x::a,h=>by have h1:=Lib.itoa_length_le x.1 (h x Y6).1 (h x Y6).2;have h2:=xK p a λy hy=>h y (Y5 _ hy);simp only[marked,Y7,Y0,Nat.mul_add];omega
theorem jH.take{a:LI}(h:jH a)(n:Nat):jH (a.take n):=λx hx=>h x (List.mem_of_mem_take hx)
theorem jH.get{a:LI}(h:jH a){n:Nat}(hn:n<a.length)(d:Int×Unit):(Lib.itoa (a.getD n d).1).length<=21:=by
 have:a.getD n d∈a:=by rw[Zq,Zf hn,Option.getD_some];exact List.getElem_mem hn
 exact Lib.itoa_length_le _ (h _ this).1 (h _ this).2
theorem iG(p:Bytes)(a:LI)(h:jH a)(n m:Nat)(hn:n<=m):(marked p (a.take n)).length<=(p.length+21)*m:=by refine Y9 (xK p _ (h.take n)) (Nat.mul_le_mul_left _ ?_);rw[Zw];omega
theorem LM(a:LI)(n:Nat)(d:Int×Unit)(h:n<a.length):dH (a.take (n+1))=(if n=0 then[]else dH (a.take n)++[32])++Lib.itoa (a.getD n d).1:=by
 cases a with
 |nil=>simp at h
 |cons x r=>
  cases n with
  |zero=>simp[dH,marked]
  |succ n=>
   have h':n<r.length:=by simpa using h
   simp only[Z8,dH,List.getD_cons_succ,nS [32] r n d h',if_neg (Nat.succ_ne_zero n),ZM]
theorem qC(a:LI)(h:jH a):(dH a).length<=22*a.length:=by
 cases a with
 |nil=>simp[dH]
 |cons x r=>have h1:=Lib.itoa_length_le x.1 (h x Y6).1 (h x Y6).2;have h2:=xK [32] r λy hy=>h y (Y5 _ hy);simp only[dH,Y7,Y0,Y4]at h2 ⊢;omega
theorem QV(a:LI):Lib.join (a.map λx=>Lib.itoa x.1) [32]=dH a:=by
 cases a with
 |nil=>rfl
 |cons x r=>
  have:∀r:LI,Lib.joinTail [32] (r.map λx=>Lib.itoa x.1)=marked [32] r:=by
   intro r
   induction r with
   |nil=>rfl
   |cons y r ih=>simp only[Lib.joinTail,Zh,List.flatten_cons,marked]at ih ⊢;rw[ih]
  rw[Zh,Lib.join_cons,this,dH]
theorem Gt(c:Nat):Lib.decDigits c=(if c / 10=0 then[]else Lib.decDigits (c / 10))++[UInt8.ofNat (48+c%10)]:=by
 conv=>lhs;rw[Lib.decDigits]
 by_cases h:c<10
 .rw[dif_pos h,if_pos (by omega),Nat.mod_eq_of_lt h];rfl
 .rw[dif_neg h,if_neg (by omega)]
end Sp
namespace Sp
open Go
set_option synthInstance.maxSize 100000
set_option synthInstance.maxHeartbeats 1000000
abbrev Fb:=Int×Int×Bytes×Unit
abbrev bn:=Bytes×Int×Int×Bytes×Unit
abbrev aS:=Int×Int×Int×Bytes×Int×Int×Bytes×Unit
abbrev aK:=Int×Int×Bool×Int×List bn×Unit
abbrev aJ:=Bytes×List aS×Unit
abbrev dw:=Int×Int×Int×Bool×Int×List bn×Int×Bytes×List aS×Unit
def mY{α:Type}(f:α->Nat):List α->Nat
 |[]=>0
 |x::r=>1+f x+mY f r
instance:DecidableEq Fb:=inferInstance
instance:DecidableEq bn:=inferInstance
instance:DecidableEq aS:=inferInstance
instance:DecidableEq aK:=inferInstance
instance:DecidableEq aJ:=inferInstance
instance:DecidableEq (Int×aJ):=inferInstance
instance:DecidableEq (List bn×Int×aJ):=inferInstance
instance:DecidableEq (Bool×Int×List bn×Int×aJ):=inferInstance
instance XK:DecidableEq dw:=(inferInstance:DecidableEq (Int×Int×Int×Bool×Int×List bn×Int×aJ))
instance:DecidableEq (List dw):=inferInstance
instance:DecidableEq (List dw×Bytes×Int×Unit):=inferInstance
def lower(s:Bytes):Bool:=s.all λc=>decide (97<=c.toNat)&&decide (c.toNat<=122)
def qo(s:Bytes):Bool:=lower s&&decide (1<=(s.length:Int))&&decide ((s.length:Int)<=6)
def jI(n:Int):Bool:=decide (0<=n)&&decide (n<=1000000000)
def idxFrom:Int->LI->Int
 |_,[]=>-1
 |k,x::r=>if jI x.1 then idxFrom (k+1) r else k
def idxOf(l:LI):Int:=idxFrom 0 l
end Sp
namespace Sp
open Go
abbrev dD:=Bytes×Int×Unit
abbrev cZ:=List dD×List aK×Int×Unit
instance:DecidableEq dD:=inferInstance
instance:DecidableEq (List dD):=inferInstance
instance:DecidableEq (List aK):=inferInstance
instance:DecidableEq (List aK×Int×Unit):=inferInstance
instance Yl:DecidableEq cZ:=(inferInstance:DecidableEq (List dD×List aK×Int×Unit))
def lH(n:Nat)(f:Nat->Bool):Bool:=(List.range n).all f
def wI(s:Bytes):Bool:=lower s&&decide (1<=(s.length:Int))&&decide ((s.length:Int)<=1)
def Aq(k n:Int)(s:Bytes):Bool:=
 bif decide (k=0)then decide (n=0)&&decide (s=[])
 else bif decide (k=1)then decide (0<=n)&&decide (n<=999)&&decide (s=[])
 else bif decide (k=2)then qo s&&decide (n=0)
 else false
def kindOf:List dD->Bytes->Int
 |[],_=>0
 |f::r,s=>bif decide (f.1=s)then f.2.1 else kindOf r s
def fieldAt(fs:List dD)(i:Nat):dD:=fs.getD i ([],0,())
def Qc(fs:List dD)(i:Nat):Bool:=
 wI (fieldAt fs i).1&&(decide (1<=(fieldAt fs i).2.1)&&decide ((fieldAt fs i).2.1<=2))&&!(decide (0<i)&&!Op.bytesLess (fieldAt fs (i-1)).1 (fieldAt fs i).1)
def KF(fs:List dD):Bool:=lH fs.length (Qc fs)&&decide ((fs.length:Int)<=5)
def Rk(fs:List dD)(name:Bytes)(k n:Int)(s:Bytes):Bool:=Aq k n s&&!decide (k=0)&&decide (k=kindOf fs name)
def wJ(as:List bn)(i:Nat):bn:=as.getD i ([],0,0,[],())
def Rl(fs:List dD)(as:List bn)(i:Nat):Bool:=
 Rk fs (wJ as i).1 (wJ as i).2.1 (wJ as i).2.2.1 (wJ as i).2.2.2.1&&!(decide (0<i)&&!Op.bytesLess (wJ as (i-1)).1 (wJ as i).1)
def Ud(fs:List dD)(as:List bn):Bool:=lH as.length (Rl fs as)
def KG(fs:List dD)(f:aK):Bool:=
 Ud fs f.2.2.2.2.1&&KF fs&&(decide (1<=f.1)&&decide (f.1<=60))&&(decide (0<=f.2.1)&&decide (f.2.1<=2))&&(decide (0<=f.2.2.2.1)&&decide (f.2.2.2.1<=60))
def fileAt(fs:List aK)(i:Nat):aK:=fs.getD i (0,0,false,0,[],())
def Rn(s:cZ)(i:Nat):Bool:=
 KG s.1 (fileAt s.2.1 i)&&decide ((fileAt s.2.1 i).1<s.2.2.1)&&!(decide (0<i)&&!decide ((fileAt s.2.1 (i-1)).1<(fileAt s.2.1 i).1))
def sJ(s:cZ):Bool:=
 lH s.2.1.length (Rn s)&&KF s.1&&decide ((s.2.1.length:Int)<=12)&&(decide (1<=s.2.2.1)&&decide (s.2.2.1<=61))
def Ij:Int->List aK->Int->Int
 |_,[],_=>-1
 |k,f::r,id=>bif decide (f.1=id)then k else Ij (k+1) r id
def place(fs:List aK)(id:Int):Int:=Ij 0 fs id
def Ue(f:aK)(u:Int):Bool:=(decide (0<=u)&&decide (u<=2))&&(decide (f.2.1=u)||f.2.2.1)
def Ro(f:aK)(u:Int):Bool:=(decide (0<=u)&&decide (u<=2))&&decide (f.2.1=u)
def unlink(fs:List aK)(f:aK):aK:=(f.1,f.2.1,f.2.2.1,(bif decide (place fs f.2.2.2.1<0)then 0 else f.2.2.2.1),f.2.2.2.2.1,())
def visible(s:cZ)(u:Int):cZ:=
 let fs:=s.2.1.filter (Ue · u)
 (s.1,fs.map (unlink fs),s.2.2.1,())
def Vj:aK:=(0,0,false,0,[],())
def xM(s:cZ)(id:Int):aK×Bool:=
 bif decide (place s.2.1 id<0)then(Vj,false)else(fileAt s.2.1 (place s.2.1 id).toNat,true)
def KH(name:Bytes)(b:bn):Bool:=!(b.1==name)
def KI(name:Bytes)(b:bn):Bool:=Op.bytesLess b.1 name||b.1==name
def Uf(as:List bn)(a:bn):List bn:=as.takeWhile (KI a.1)++a::as.dropWhile (KI a.1)
def MQ(as:List bn)(name:Bytes)(k n:Int)(s:Bytes):List bn:=
 bif decide (k=0)then as.filter (KH name)else Uf (as.filter (KH name)) (name,k,n,s,())
def Fe(s:cZ)(f:aK):cZ×Int×Bool:=
 let g:aK:=(s.2.2.1,f.2)
 bif sJ s&&decide ((s.2.1.length:Int)<12)&&KG s.1 g then((s.1,s.2.1++[g],s.2.2.1+1,()),s.2.2.1,true)else(s,0,false)
def vI(s:cZ)(f:aK):cZ×Bool:=
 bif sJ s&&!decide (place s.2.1 f.1<0)&&KG s.1 f then((s.1,s.2.1.set (place s.2.1 f.1).toNat f,s.2.2.1,()),true)else(s,false)
def Fg(s:cZ)(id:Int):cZ×Bool:=
 bif sJ s&&!decide (place s.2.1 id<0)then((s.1,s.2.1.eraseIdx (place s.2.1 id).toNat,s.2.2.1,()),true)else(s,false)
def KJ{α:Type}(p:α->Bool):Int->List α->Int
 |_,[]=>-1
 |k,f::r=>bif p f then k else KJ p (k+1) r
def findAt{α:Type}(p:α->Bool)(l:List α):Int:=KJ p 0 l
def fieldPlace(l:List dD)(name:Bytes):Int:=findAt (λf=>f.1==name) l
end Sp
namespace Sp
abbrev Jc:=List (Nat×Nat×Nat)
def wK(E:Jc)(L:Nat->Nat):Prop:=∀e∈E,L e.2.1+e.2.2<=L e.1
def Ug(E:Jc)(n:Nat):Prop:=∀e∈E,e.1<n/\e.2.1<n/\e.2.2<=1
structure Raises(E:Jc)(n:Nat)(R:(Nat->Nat)->Nat->Nat):Prop where
 up:∀L i,L i<=R L i
 fix:∀L,(∀i,i<n->R L i=L i)->wK E L
 below:∀L M,wK E M->(∀i,i<n->L i<=M i)->∀i,i<n->R L i<=M i
 same:∀L L',(∀i,i<n->L i=L' i)->∀i,i<n->R L i=R L' i
end Sp
namespace Sp
open Go
abbrev eY:=List dD×List aK×Int×List aJ×Unit
abbrev gJ:=Int×List dD×List aK×Int×List aJ×Int×Unit
instance:DecidableEq (List aS):=inferInstance
instance:DecidableEq aJ:=inferInstance
instance:DecidableEq (List aJ):=inferInstance
instance:DecidableEq (List aJ×Unit):=inferInstance
instance:DecidableEq (Int×List aJ×Unit):=inferInstance
instance:DecidableEq (List aK×Int×List aJ×Unit):=inferInstance
instance Yw:DecidableEq eY:=(inferInstance:DecidableEq (List dD×List aK×Int×List aJ×Unit))
instance:DecidableEq (List aJ×Int×Unit):=inferInstance
instance:DecidableEq (Int×List aJ×Int×Unit):=inferInstance
instance:DecidableEq (List aK×Int×List aJ×Int×Unit):=inferInstance
instance:DecidableEq (List dD×List aK×Int×List aJ×Int×Unit):=inferInstance
instance YK:DecidableEq gJ:=(inferInstance:DecidableEq (Int×List dD×List aK×Int×List aJ×Int×Unit))
instance:DecidableEq (List gJ):=inferInstance
def nodeAt(q:List aS)(i:Nat):aS:=q.getD i (0,0,0,[],0,0,[],())
def iV(n:aS):Bool:=n.1==6||n.1==7
def Fh(n:aS):Bool:=n.1==8||n.1==9
def wL(n:aS)(a:Int):Bool:=
 let kids:=decide (0<=n.2.1)&&decide (n.2.1<=a-1)&&decide (0<a)
 let two:=decide (0<=n.2.2.1)&&decide (n.2.2.1<=a-1)
 let bare:=n.2.2.2.1==[]&&(n.2.2.2.2.1==0&&(n.2.2.2.2.2.1==0&&n.2.2.2.2.2.2.1==[]))
 let flat:=n.2.1==0&&n.2.2.1==0
 let valued:=Aq n.2.2.2.2.1 n.2.2.2.2.2.1 n.2.2.2.2.2.2.1
 let void:=n.2.2.2.2.1==0&&(n.2.2.2.2.2.1==0&&n.2.2.2.2.2.2.1==[])
 bif n.1==1 then flat&&bare else bif n.1==2 then flat&&void&&wI n.2.2.2.1 else
 bif n.1==3 then flat&&wI n.2.2.2.1&&valued&&!(n.2.2.2.2.1==0)else bif n.1==4 then flat&&wI n.2.2.2.1&&valued&&n.2.2.2.2.1==1 else
 bif n.1==5 then kids&&n.2.2.1==0&&bare else bif n.1==6||n.1==7 then kids&&two&&bare else
 bif n.1==8||n.1==9 then flat&&void&&qo n.2.2.2.1 else false
def refsOf(a:Int)(n:aS):Nat:=(bif (iV n||n.1==5)&&n.2.1==a then 1 else 0)+(bif iV n&&n.2.2.1==a then 1 else 0)
def Ik(q:List aS)(a:Int):Nat:=(q.map (refsOf a)).sum
def Dv(q:List aS)(i:Nat):Bool:=wL (nodeAt q i) i&&!(decide ((i:Int)<(q.length:Int)-1)&&!(Ik q i==1))
def eU(q:List aS):Bool:=lH q.length (Dv q)&&(decide (1<=(q.length:Int))&&decide ((q.length:Int)<=9))
def gW(d:List aJ)(i:Nat):aJ:=d.getD i ([],[],())
def Uh(d:List aJ)(i:Nat):Bool:=qo (gW d i).1&&eU (gW d i).2.1&&!(decide (0<i)&&!Op.bytesLess (gW d (i-1)).1 (gW d i).1)
def Fj(d:List aJ):Bool:=lH d.length (Uh d)&&decide ((d.length:Int)<=5)
def jf(q:List aS)(i:Nat)(out:List (Bool×Unit)):List (Bool×Unit):=
 let n:=nodeAt q i
 bif n.1==5 then out.set n.2.1.toNat (true,())else bif iV n then(out.set n.2.1.toNat ((out.getD i (false,())).1,())).set n.2.2.1.toNat ((out.getD i (false,())).1,())else out
def jZ(q:List aS):Nat->List (Bool×Unit)->List (Bool×Unit)
 |0,out=>out
 |n+1,out=>jZ q n (jf q n out)
def negated(q:List aS):List (Bool×Unit):=bif eU q then jZ q q.length (List.replicate q.length (false,()))else[]
def oh(q:List aS)(neg:Bool):List Bytes:=(List.range (negated q).length).filterMap λi=>bif Fh (nodeAt q i)&&((negated q).getD i (false,())).1==neg then some (nodeAt q i).2.2.2.1 else none
def mZ:Int->List aJ->Bytes->Int
 |_,[],_=>-1
 |k,x::r,s=>bif x.1==s then k else mZ (k+1) r s
def fM(d:List aJ)(s:Bytes):Int:=mZ 0 d s
def ng(d:List aJ):Jc:=
 (List.range d.length).flatMap λi=>
   ((oh (gW d i).2.1 false).filterMap λs=>bif decide (0<=fM d s)then some (i,(fM d s).toNat,0)else none)++
   ((oh (gW d i).2.1 true).filterMap λs=>bif decide (0<=fM d s)then some (i,(fM d s).toNat,1)else none)
open Classical in
noncomputable def rZ (d:List aJ):Bool:=Fj d&&decide (∃L,wK (ng d) L)
def Il(x:eY):cZ:=(x.1,x.2.1,x.2.2.1,())
noncomputable def Fp (x:eY):Bool:=sJ (Il x)&&rZ x.2.2.2.1
def ni(v:List gJ)(i:Nat):gJ:=v.getD i (0,[],[],0,[],0,())
def MR(x:gJ):eY:=(x.2.1,x.2.2.1,x.2.2.2.1,x.2.2.2.2.1,())
noncomputable def Ui (v:List gJ) (i:Nat):Bool:=
 (decide (1<=(ni v i).1)&&decide ((ni v i).1<=1000000000))&&(!(decide (0<i)&&decide ((ni v (i-1)).1>=(ni v i).1))&&(Fp (MR (ni v i))&&(decide (0<=(ni v i).2.2.2.2.2.1)&&decide ((ni v i).2.2.2.2.2.1<=99))))
noncomputable def KL (v:List gJ):Bool:=lH v.length (Ui v)&&decide ((v.length:Int)<=6)
def MS:Int->List gJ->Int->Int
 |_,[],_=>-1
 |k,x::r,n=>bif x.1==n then k else MS (k+1) r n
def qp(v:List gJ)(n:Int):Int:=MS 0 v n
end Sp
namespace Sp
open Go
theorem zQ(s:Bytes):∀(d:List aJ)(k:Int),(mZ k d s=-1/\∀x∈d,x.1≠s)\/∃n,n<d.length/\mZ k d s=k+n/\(gW d n).1=s/\∀i,i<n->(gW d i).1≠s
 |[],k=>.inl ⟨rfl,λx hx=>by cases hx⟩
 |x::r,k=>by
  by_cases h:x.1=s
  .right;refine⟨0,by simp,?_,h,λi hi=>by omega⟩;rw[mZ,beq_iff_eq.2 h];simp
  .rcases zQ s r (k+1)with⟨h1,h2⟩|⟨n,h1,h2,h3,h4⟩
   .left;refine⟨by rw[mZ,aac.2 h];exact h1,λy hy=>?_⟩;rcases Zl.1 hy with rfl|hy
    .exact h
    .exact h2 y hy
   .right;refine⟨n+1,by simp;omega,by rw[mZ,aac.2 h];show mZ (k+1) r s=_;omega,h3,λi hi=>?_⟩;cases i with
    |zero=>exact h
    |succ i=>exact h4 i (by omega)
theorem GH(d:List aJ)(s:Bytes):(fM d s=-1/\∀x∈d,x.1≠s)\/∃n,n<d.length/\fM d s=n/\(gW d n).1=s/\∀i,i<n->(gW d i).1≠s:=by
 rcases zQ s d 0 with h|⟨n,h1,h2,h3⟩
 .exact .inl h
 .exact .inr ⟨n,h1,by show mZ 0 d s=_;omega,h3⟩
theorem LQ{d:List aJ}{s:Bytes}(h:0<=fM d s):fM d s<d.length:=by rcases GH d s with⟨h1,_⟩|⟨n,h1,h2,_⟩<;>omega
theorem Qd{d:List aJ}{i j m:Nat}:(i,j,m)∈ng d↔i<d.length/\∃s,((m=0/\s∈oh (gW d i).2.1 false)\/(m=1/\s∈oh (gW d i).2.1 true))/\0<=fM d s/\j=(fM d s).toNat:=by
 grind [ng]
theorem KN(d:List aJ):Ug (ng d) d.length:=by
 rintro⟨i,j,m⟩ he;obtain⟨h1,s,h2,h3,h4⟩:=Qd.1 he;have:=LQ h3
 grind
def lv(l:List (Int×Unit))(i:Nat):Int:=(l.getD i (0,())).1
theorem Vk{l:List (Int×Unit)}{i:Nat}(hi:i<l.length)(x:Int)(k:Nat):lv (l.set i (x,())) k=if k=i then x else lv l k:=by
 grind [lv]
structure Io(d:List aJ)(bW cur:List (Int×Unit))(g:Int)(P:Nat×Nat×Nat->Prop):Prop where
 len:cur.length=d.length
 up:∀i,i<d.length->lv bW i<=lv cur i
 grow:∀B,(∀i,i<d.length->lv bW i<=B)->∀i,i<d.length->lv cur i<=B+g
 fix:(∀i,i<d.length->lv cur i=lv bW i)->∀e,P e->lv bW e.2.1+e.2.2<=lv bW e.1
 below:∀M,wK (ng d) M->(∀i,i<d.length->lv bW i<=M i)->∀i,i<d.length->lv cur i<=M i
theorem Io.start{d:List aJ}{bW:List (Int×Unit)}(h:bW.length=d.length):Io d bW bW 0 λ_=>False:=
 ⟨h,λ_ _=>Int.le_refl _,λB hB i hi=>by grind,λ_ e he=>he.elim,λ_ _ h=>h⟩
theorem Io.still{d:List aJ}{bW cur:List (Int×Unit)}{g:Int}{P:Nat×Nat×Nat->Prop}(h:Io d bW cur g P){i j m:Nat}(he:(i,j,m)∈ng d)(hle:lv cur j+m<=lv cur i):Io d bW cur g λe=>P e\/e=(i,j,m):=by
 obtain⟨h1,h2,_⟩:=KN d _ he;refine⟨h.len,h.up,h.grow,λhx e hp=>?_,h.below⟩;rcases hp with hp|rfl
 .exact h.fix hx e hp
 grind
theorem Io.set{d:List aJ}{bW cur:List (Int×Unit)}{g:Int}{P:Nat×Nat×Nat->Prop}(h:Io d bW cur g P){i j m:Nat}(he:(i,j,m)∈ng d)(hlt:lv cur i<lv cur j+m):Io d bW (cur.set i (lv cur j+m,())) (g+m) λe=>P e\/e=(i,j,m):=by
 obtain⟨h1,h2,_⟩:=KN d _ he;have hl:=h.len;have hs:=λk=>Vk (l:=cur) (i:=i) (by omega) (lv cur j+m) k;refine⟨by simp;omega,λk hk=>?_,λB hB k hk=>?_,λhx e hp=>?_,λM hM hb k hk=>?_⟩
 .have a:=h.up k hk;grind
 .rw[hs];have a:=h.grow B hB k hk;have b:=h.grow B hB j h2;split<;>omega
 .have:=hx i h1;rw[hs,if_pos rfl]at this;have:=h.up i h1;omega
 .rw[hs];split
  .next e=>
   have a:=h.below M hM hb j h2;have b:=hM _ he
   grind
  .exact h.below M hM hb k hk
end Sp
namespace Sp
abbrev Ext(ι α:Type):=ι->α->Bool
structure Sys(ι α:Type) where
 T:ι->Ext ι α->α->Prop
 pos:ι->ι->Prop
 neg:ι->ι->Prop
 mono:∀i X Y,(∀j,pos i j->∀x,X j x=true->Y j x=true)->(∀j,neg i j->∀x,X j x=Y j x)->∀x,T i X x->T i Y x
def V4{ι α:Type}(S:Sys ι α)(N:ι->Prop)(bW:ι->Nat):Prop:=∀i j,N i->N j->(S.pos i j->bW j<=bW i)/\(S.neg i j->bW j<bW i)
structure Eval{ι α:Type}(S:Sys ι α)(N:ι->Prop)(bW:ι->Nat)(X:Ext ι α):Prop where
 fix:∀i,N i->∀x,X i x=true↔S.T i X x
 least:∀k(Y:Ext ι α),(∀i,¬(N i/\bW i=k)->∀x,Y i x=X i x)->(∀i,N i->bW i=k->∀x,S.T i Y x->Y i x=true)->∀i,N i->bW i=k->∀x,X i x=true->Y i x=true
open Classical in
theorem XL{ι α:Type}{P:ι->Prop}{A B:Ext ι α}:∃Y:Ext ι α,(∀i x,Y i x=true↔A i x=true/\(P i->B i x=true))/\∀i,¬P i->∀x,Y i x=A i x:=by
 have h:∀i x,decide (A i x=true/\(P i->B i x=true))=true↔A i x=true/\(P i->B i x=true):=λi x=>decide_eq_true_iff;refine⟨λi x=>decide (A i x=true/\(P i->B i x=true)),h,λi hi x=>?_⟩
 simp_all
end Sp
namespace Sp
open Go
abbrev ig:=Bytes×List (Int×Unit)×Unit
abbrev BX:=Ext Bytes Int
def qw:List bn->Bytes->Fb
 |[],_=>(0,0,[],())
 |a::r,s=>bif a.1==s then(a.2.1,a.2.2.1,a.2.2.2.1,())else qw r s
def qV:List ig->Bytes->List (Int×Unit)
 |[],_=>[]
 |x::r,s=>bif x.1==s then x.2.1 else qV r s
def uV(l:List (Int×Unit))(x:Int):Bool:=l.any λy=>y.1==x
def xO(r:List ig):BX:=λs x=>uV (qV r s) x
def Dw(n:aS)(f:aK)(X:BX):Bool:=
 bif n.1==2 then !((qw f.2.2.2.2.1 n.2.2.2.1).1==0)else
 bif n.1==3 then decide (qw f.2.2.2.2.1 n.2.2.2.1=(n.2.2.2.2.1,n.2.2.2.2.2.1,n.2.2.2.2.2.2.1,()))else
 bif n.1==4 then(qw f.2.2.2.2.1 n.2.2.2.1).1==1&&decide ((qw f.2.2.2.2.1 n.2.2.2.1).2.1<n.2.2.2.2.2.1)else
 bif n.1==8 then X n.2.2.2.1 f.1 else
 bif n.1==9 then !(f.2.2.2.1==0)&&X n.2.2.2.1 f.2.2.2.1 else true
def val(q:List aS)(f:aK)(X:BX)(a:Nat):Bool:=
 if(nodeAt q a).1=5 then(if h:(nodeAt q a).2.1.toNat<a then !val q f X (nodeAt q a).2.1.toNat else true)
 else if(nodeAt q a).1=6 then(if h:(nodeAt q a).2.1.toNat<a/\(nodeAt q a).2.2.1.toNat<a then val q f X (nodeAt q a).2.1.toNat&&val q f X (nodeAt q a).2.2.1.toNat else true)
 else if(nodeAt q a).1=7 then(if h:(nodeAt q a).2.1.toNat<a/\(nodeAt q a).2.2.1.toNat<a then val q f X (nodeAt q a).2.1.toNat||val q f X (nodeAt q a).2.2.1.toNat else true)
 else Dw (nodeAt q a) f X
termination_by a
decreasing_by all_goals omega
theorem Qe(q:List aS)(f:aK)(X:BX)(a:Nat):val q f X a=
 if(nodeAt q a).1=5 then(if h:(nodeAt q a).2.1.toNat<a then !val q f X (nodeAt q a).2.1.toNat else true)
 else if(nodeAt q a).1=6 then(if h:(nodeAt q a).2.1.toNat<a/\(nodeAt q a).2.2.1.toNat<a then val q f X (nodeAt q a).2.1.toNat&&val q f X (nodeAt q a).2.2.1.toNat else true)
 else if(nodeAt q a).1=7 then(if h:(nodeAt q a).2.1.toNat<a/\(nodeAt q a).2.2.1.toNat<a then val q f X (nodeAt q a).2.1.toNat||val q f X (nodeAt q a).2.2.1.toNat else true)
 else Dw (nodeAt q a) f X:=by rw[val]
def uh(q:List aS)(f:aK)(X:BX):Bool:=eU q&&val q f X (q.length-1)
def sel(fs:List aK)(q:List aS)(X:BX):List (Int×Unit):=(fs.filter λf=>uh q f X).map λf=>(f.1,())
def kP(q:List aS)(i:Nat):Bool:=((negated q).getD i (false,())).1
theorem zS{q:List aS}(h:eU q=true){i:Nat}(hi:i<q.length):wL (nodeAt q i) i=true/\((i:Int)<(q.length:Int)-1->Ik q i=1):=by
 unfold eU at h;have h1:Dv q i=true:=by
  grind [lH]
 grind [Dv]
theorem LU{q:List aS}(h:eU q=true):1<=q.length/\q.length<=9:=by
 grind [eU]
theorem BM{n:aS}{a:Nat}(h:wL n a=true)(hn:n.1=5\/n.1=6\/n.1=7):0<=n.2.1/\n.2.1.toNat<a:=by
 grind [wL]
theorem OE{n:aS}{a:Nat}(h:wL n a=true)(hn:n.1=6\/n.1=7):0<=n.2.2.1/\n.2.2.1.toNat<a:=by
 grind [wL]
theorem MV{α:Type}(g:α->Nat):∀(l:List α),(l.map g).sum=1->∀i j,i<l.length->j<l.length->i≠j->∀d,1<=g (l.getD i d)->g (l.getD j d)=0
 |[],_,i,_,hi,_,_,_,_=>by simp at hi
 |x::r,h,i,j,hi,hj,hne,d,hg=>by
  rw[Zh,List.sum_cons]at h;have mem:∀(l:List α) k,k<l.length->g (l.getD k d)<=(l.map g).sum:=by
   intro l
   induction l with
   |nil=>grind
   |cons y t ih=>
    grind
  cases i with
  |zero=>
   cases j with
   |zero=>exact(hne rfl).elim
   |succ j=>
    have h1:1<=g x:=hg;have:=mem r j (by simpa using hj);show g (r.getD j d)=0;omega
  |succ i=>
   have h1:1<=g (r.getD i d):=hg;have h2:=mem r i (by simpa using hi);cases j with
   |zero=>show g x=0;omega
   |succ j=>exact MV g r (by omega) i j (by simpa using hi) (by simpa using hj) (by omega) d hg
theorem pK{q:List aS}{p:Nat}:∀(n:Nat)(out:List (Bool×Unit)),(∀i,i<n->((nodeAt q i).1=5\/iV (nodeAt q i)=true->(nodeAt q i).2.1.toNat≠p)/\(iV (nodeAt q i)=true->(nodeAt q i).2.2.1.toNat≠p))->
 (jZ q n out).getD p (false,())=out.getD p (false,())
 |0,_,_=>rfl
 |n+1,out,h=>by
  have ih:=pK n (jf q n out) λi hi=>h i (by omega);show(jZ q n (jf q n out)).getD p (false,())=_;rw[ih];have hs:∀(l:List (Bool×Unit)) k x,k≠p->(l.set k x).getD p (false,())=l.getD p (false,()):=λl k x hk=>by rw[Zq,Z5 hk,← Zq]
  obtain⟨h1,h2⟩:=h n (by omega);unfold jf;dsimp only;cases e5:((nodeAt q n).1==5)with
  |true=>exact hs _ _ _ (h1 (.inl (beq_iff_eq.1 e5)))
  |false=>
   cases e2:iV (nodeAt q n)with
   |true=>exact(hs _ _ _ (h2 e2)).trans (hs _ _ _ (h1 (.inr e2)))
   |false=>rfl
theorem BN(q:List aS):∀(n:Nat)(out:List (Bool×Unit)),(jZ q n out).length=out.length
 |0,_=>rfl
 |n+1,out=>by show(jZ q n (jf q n out)).length=_;rw[BN q n];unfold jf;dsimp only;cases (nodeAt q n).1==5<;>cases iV (nodeAt q n)<;>simp
theorem uX{n:aS}:iV n=true↔n.1=6\/n.1=7:=by
 grind [iV]
theorem yw(q:List aS):∀(k m:Nat)(out:List (Bool×Unit)),∃mid:List (Bool×Unit),mid.length=out.length/\jZ q (m+k) out=jZ q m mid
 |0,_,out=>⟨out,rfl,rfl⟩
 |k+1,m,out=>by
  obtain⟨mid,h1,h2⟩:=yw q k m (jf q (m+k) out);have hl:(jf q (m+k) out).length=out.length:=by
   grind [jf]
  exact⟨mid,h1.trans hl,h2⟩
theorem Fq{q:List aS}(h:eU q=true){i:Nat}(hi:i<q.length):((nodeAt q i).1=5\/iV (nodeAt q i)=true->0<=(nodeAt q i).2.1/\(nodeAt q i).2.1.toNat<i)/\(iV (nodeAt q i)=true->0<=(nodeAt q i).2.2.1/\(nodeAt q i).2.2.1.toNat<i):=by
 have h1:=(zS h hi).1;refine⟨λh2=>?_,λh2=>OE h1 (uX.1 h2)⟩;rcases h2 with h2|h2
 .exact BM h1 (.inl h2)
 .exact BM h1 (.inr (uX.1 h2))
theorem OG{q:List aS}(h:eU q=true){i j p:Nat}(hi:i<q.length)(hj:j<q.length)(hne:i≠j)(hp:p<i)(hr:1<=refsOf p (nodeAt q i)):refsOf p (nodeAt q j)=0:=
 MV (refsOf p) q ((zS h (by omega)).2 (by omega)) i j hi hj hne _ hr
theorem LV{p:Nat}{n:aS}(h:refsOf p n=0)(h0:((n.1=5\/iV n=true)->0<=n.2.1)/\(iV n=true->0<=n.2.2.1)):(n.1=5\/iV n=true->n.2.1.toNat≠p)/\(iV n=true->n.2.2.1.toNat≠p):=by
 grind [refsOf]
theorem BO{p:Nat}{n:aS}(h:n.1=5\/iV n=true)(h0:0<=n.2.1)(e:n.2.1.toNat=p):1<=refsOf p n:=by
 grind [refsOf]
theorem KO{p:Nat}{n:aS}(h:iV n=true)(h0:0<=n.2.2.1)(e:n.2.2.1.toNat=p):1<=refsOf p n:=by
 grind [refsOf]
theorem Dx{l:List (Bool×Unit)}{k p:Nat}{x:Bool×Unit}(hk:k<l.length):(l.set k x).getD p (false,())=if k=p then x else l.getD p (false,()):=by
 grind
theorem OH{q:List aS}(h:eU q=true){i:Nat}(hi:i<q.length):
 ((nodeAt q i).1=5->kP q (nodeAt q i).2.1.toNat=true)/\(iV (nodeAt q i)=true->kP q (nodeAt q i).2.1.toNat=kP q i/\kP q (nodeAt q i).2.2.1.toNat=kP q i):=by
 have hn:negated q=jZ q q.length (List.replicate q.length (false,())):=by grind [negated]
 obtain⟨mid,hm1,hm2⟩:=yw q (q.length-(i+1)) (i+1) (List.replicate q.length (false,()));rw[show i+1+(q.length-(i+1))=q.length by omega,← hn]at hm2;have hml:mid.length=q.length:=by rw[hm1];simp
 have Ws:negated q=jZ q i (jf q i mid):=hm2;obtain⟨k1,k2⟩:=Fq h hi;have keep:∀p,p<i->1<=refsOf p (nodeAt q i)->kP q p=((jf q i mid).getD p (false,())).1:=λp hp hr=>by
  unfold kP;rw[Ws,pK i];intro j hj;have hjl:j<q.length:=by omega
  obtain⟨g1,g2⟩:=Fq h hjl
  grind [LV,OG]
 have self:kP q i=(mid.getD i (false,())).1:=by
  unfold kP;rw[hm2,pK (i+1)];intro j hj;obtain⟨g1,g2⟩:=Fq h (show j<q.length by omega)
  grind
 refine⟨λh5=>?_,λh2=>?_⟩
 · grind [BO,jf]
 .obtain⟨a,b⟩:=k1 (.inr h2);obtain⟨a',b'⟩:=k2 h2;have h5:((nodeAt q i).1==5)=false:=by rcases uX.1 h2 with e|e<;>rw[e]<;>rfl
  rw[keep _ b (BO (.inr h2) a rfl),keep _ b' (KO h2 a' rfl),self];unfold jf;dsimp only;rw[h5,h2];show(((mid.set _ ((mid.getD i (false,())).1,())).set _ ((mid.getD i (false,())).1,())).getD _ (false,())).1=_/\(((mid.set _ ((mid.getD i (false,())).1,())).set _ ((mid.getD i (false,())).1,())).getD _ (false,())).1=_;rw[Dx (by grind),Dx (by omega),Dx (by grind),if_pos rfl,if_pos rfl]
  grind
theorem OI{q:List aS}(h:eU q=true):kP q (q.length-1)=false:=by
 have hn:negated q=jZ q q.length (List.replicate q.length (false,())):=by grind [negated]
 unfold kP;rw[hn,pK q.length]
 · grind
 grind [Fq]
theorem Rq{q:List aS}(h:eU q=true){i:Nat}(hi:i<q.length)(hd:Fh (nodeAt q i)=true):(nodeAt q i).2.2.2.1∈oh q (kP q i):=by
 grind [negated,BN,oh,kP]
theorem Rt{q:List aS}{f:aK}{X Y:BX}(h:eU q=true)(hp:∀s∈oh q false,∀x,X s x=true->Y s x=true)(hn:∀s∈oh q true,∀x,X s x=Y s x):
 ∀a,a<q.length->(kP q a=false->val q f X a=true->val q f Y a=true)/\(kP q a=true->val q f X a=val q f Y a):=by
 intro a
 induction a using Nat.strongRecOn with
 |_ a ih=>
  intro ha;obtain⟨n1,n2⟩:=OH h ha;rw[Qe q f X a,Qe q f Y a]
  grind [uX,Rq,Fh,Dw]
theorem KP{q:List aS}{f:aK}{X Y:BX}(hp:∀s∈oh q false,∀x,X s x=true->Y s x=true)(hn:∀s∈oh q true,∀x,X s x=Y s x)(hm:uh q f X=true):uh q f Y=true:=by unfold uh at hm ⊢;rw[YZ]at hm ⊢;have hl:=LU hm.1;exact⟨hm.1,(Rt hm.1 hp hn _ (by omega)).1 (OI hm.1) hm.2⟩
theorem MW{fs:List aK}{q:List aS}{X:BX}{x:Int}:(x,())∈sel fs q X↔∃f∈fs,f.1=x/\uh q f X=true:=by
 unfold sel;constructor
 · grind
 .rintro⟨f,hf,rfl,hm⟩
  grind
def OJ(fs:List aK)(d:List aJ):Sys Bytes Int where
 T:=λs X x=>∃i,i<d.length/\(gW d i).1=s/\(x,())∈sel fs (gW d i).2.1 X
 pos:=λs t=>∃i,i<d.length/\(gW d i).1=s/\t∈oh (gW d i).2.1 false
 neg:=λs t=>∃i,i<d.length/\(gW d i).1=s/\t∈oh (gW d i).2.1 true
 mono:=λs X Y hp hn x⟨i,hi,e,hx⟩=>⟨i,hi,e,by obtain⟨f,hf,e2,hm⟩:=MW.1 hx;exact MW.2 ⟨f,hf,e2,KP (λt ht=>hp t ⟨i,hi,e,ht⟩) (λt ht=>hn t ⟨i,hi,e,ht⟩) hm⟩⟩
end Sp
namespace Go.Fw
open Go
theorem Ih{n m:Nat}{left:Int}(h:0<=Sp.aO n left):Sp.aO m (Sp.aO n left)=Sp.aO (n+m) left:=by
 grind [Sp.aO]
theorem EK{n m:Nat}{left:Int}(h:Sp.aO n left<0):Sp.aO (n+m) left=-1:=by
 grind [Sp.aO]
theorem Ig{n:Nat}{left:Int}(h:0<=left):Sp.aO n left<=left:=by grind [Sp.aO]
theorem Qg{n:Nat}{left:Int}(h:¬left-(n:Int)<0):Sp.aO n left=left-n:=by grind [Sp.aO]
def pO{α:Type}(f:α->Nat):List α->Nat
 |[]=>0
 |x::r=>f x+pO f r
theorem mD{α:Type}(f:α->Nat):∀a:List α,Sp.mY f a=a.length+pO f a
 |[]=>rfl
 |x::r=>by simp only[Sp.mY,pO,mD f r,Y0];omega
theorem Ip{α:Type}(f:α->Nat)(d:α):∀(a:List α)(n:Nat),n<a.length->pO f (a.take (n+1))=pO f (a.take n)+f (a.getD n d)
 |[],n,h=>by simp at h
 |x::r,0,_=>by simp[pO]
 |x::r,n+1,h=>by have:=Ip f d r n (by simpa using h);simp only[Z8,pO,List.getD_cons_succ]at this ⊢;omega
theorem MX{α:Type}(f:α->Nat):∀(a:List α)(n:Nat),pO f (a.take n)<=pO f a
 |[],n=>by simp
 |x::r,0=>by simp[pO]
 |x::r,n+1=>by simp only[Z8,pO];have:=MX f r n;omega
theorem uS{α:Type}(f:α->Nat):∀(a:List α)(x:α),x∈a->f x<=Sp.mY f a
 |y::r,x,h=>by
  rw[Sp.mY];rcases Zl.1 h with rfl|h
  .omega
  .have:=uS f r x h;omega
 |[],x,h=>by cases h
theorem U3{α β:Type}(f:α->Nat)(d:α)(a:List α)(left:Int)(t:β)(hlen:a.length<=9223372036854775807)(h0:0<=left)(h1:left<=1048576){K:Int×Unit->Prop}(hK:K (Sp.aO (Sp.mY f a) left,())):
 bif decide (IntKind.i64.wrap (left-(a.length:Int))<(0:Int))then K ((-1:Int),())
 else∃(I:(Int×Int×Unit)×Unit->Prop),∃(μ:(Int×Int×Unit)×Unit->Nat),I ((IntKind.i64.wrap (left-(a.length:Int)),(0:Int),()),())/\∀(y:(Int×Int×Unit)×Unit),I y->
  bif decide (y.fst.snd.fst<(a.length:Int))then
   ((0:Int)<=y.fst.snd.fst/\y.fst.snd.fst<(a.length:Int))/\((0:Int)<=y.fst.fst/\y.fst.fst<=(1048576:Int))/\
     (bif decide (Sp.aO (f (a.getD (Int.toNat y.fst.snd.fst) d)) y.fst.fst<(0:Int))then K ((-1:Int),())
     else t=t/\I ((Sp.aO (f (a.getD (Int.toNat y.fst.snd.fst) d)) y.fst.fst,IntKind.i64.wrap (y.fst.snd.fst+(1:Int)),()),())/\
      μ ((Sp.aO (f (a.getD (Int.toNat y.fst.snd.fst) d)) y.fst.fst,IntKind.i64.wrap (y.fst.snd.fst+(1:Int)),()),())<μ y)
  else K (y.fst.fst,()):=by
 rw[dP _ (by omega)];refine aI (λh=>?_) λh=>?_<;>simp only[Zi,Za]at h
 · grind [mD,Sp.aO]
 .refine⟨λy=>∃n:Nat,y.1.2.1=n/\n<=a.length/\0<=y.1.1/\y.1.1=Sp.aO (a.length+pO f (a.take n)) left,λy=>((a.length:Int)-y.1.2.1).toNat,⟨0,rfl,by omega,by grind,?_⟩,?_⟩
  · grind [pO,Qg]
  rintro⟨⟨l,_,⟨⟩⟩,⟨⟩⟩ ⟨n,rfl,hn,hl,hJ⟩;dsimp only at hl hJ ⊢;have hle:l<=left:=by simp_all [Ig]
  refine aI (λh=>?_) λh=>?_<;>simp only[Zi,Za]at h
  .have key:Sp.aO (f (a.getD n d)) l=Sp.aO (a.length+pO f (a.take (n+1))) left:=by
    grind [Ih,Ip]
   rw[Zr,dP _ (by omega)];refine⟨⟨by omega,by omega⟩,⟨hl,by omega⟩,aI (λh2=>?_) λh2=>?_⟩<;>simp only[Zi,Za]at h2
   · grind [MX,Sp.aO,mD]
   grind
  grind [mD]
theorem toS_vc{α β:Type}(pre:α->Prop)(d:α)(a:List α)(t:β)(hbig:a.length<=4294967296)(hpre:∀x∈a,pre x){K:List α×Unit->Prop}(hK:K (a,())):
 ((0:Int)<=(a.length:Int)/\(a.length:Int)<=(a.length:Int)/\(a.length:Int)<=(big:Int))/\
 ∃(I:(Int×Unit)×List α×Unit->Prop),∃(μ:(Int×Unit)×List α×Unit->Nat),I (((0:Int),()),List.replicate (a.length:Int).toNat d,())/\∀(y:(Int×Unit)×List α×Unit),I y->
  bif decide (y.fst.fst<(a.length:Int))then
   ((0:Int)<=y.fst.fst/\y.fst.fst<(a.length:Int))/\pre (a.getD (Int.toNat y.fst.fst) d)/\((0:Int)<=y.fst.fst/\y.fst.fst<(List.length y.snd.fst:Int))/\Int.toNat y.fst.fst<List.length y.snd.fst/\
     t=t/\I ((IntKind.i64.wrap (y.fst.fst+(1:Int)),()),List.set y.snd.fst (Int.toNat y.fst.fst) (a.getD (Int.toNat y.fst.fst) d),())/\
      μ ((IntKind.i64.wrap (y.fst.fst+(1:Int)),()),List.set y.snd.fst (Int.toNat y.fst.fst) (a.getD (Int.toNat y.fst.fst) d),())<μ y
  else K (y.snd.fst,()):=by
 refine⟨⟨by omega,by omega,by rw[tJ];omega⟩,λy=>∃n:Nat,y.1.1=n/\n<=a.length/\y.2.1=a.take n++List.replicate (a.length-n) d,λy=>((a.length:Int)-y.1.1).toNat,⟨0,rfl,by omega,by simp⟩,?_⟩;rintro⟨⟨_,⟨⟩⟩,l,⟨⟩⟩ ⟨n,rfl,hn,rfl⟩;dsimp only;refine aI (λh=>?_) λh=>?_<;>simp only[Zi,Za]at h
 .have hlt:n<a.length:=by omega
  have hl:(a.take n++List.replicate (a.length-n) d).length=a.length:=by grind
  rw[dP _ (by omega),Zr,hl];refine⟨⟨by omega,by omega⟩,hpre _ (getD_mem hlt),⟨by omega,by omega⟩,hlt,rfl,⟨n+1,by simp,by omega,?_⟩,by omega⟩;rw[show a.length-n=a.length-(n+1)+1 by omega,List.replicate_succ,aaj _ _ (by grind),Zw,aaE hn,Nat.sub_self,List.set_cons_zero,
     Zy hlt,ZM,Zq,Zf hlt]
  rfl
 .have hge:n=a.length:=by omega
  simp_all
end Go.Fw
namespace Go.Fw
open Go
theorem Ja{p:Prop}[Decidable p]{A B:Prop}(h:p)(a:A):cond (decide p) A B:=by grind
theorem Jb{p:Prop}[Decidable p]{A B:Prop}(h:¬p)(b:B):cond (decide p) A B:=by grind
theorem Gx{B:((Int×Unit)×Unit->Prop)->((Int×Unit)×Unit->Nat)->(Int×Unit)×Unit->Prop}(len:Nat)(hlen:len<=9223372036854775807)(J:Nat->Prop)(h0:J 0)
 (hstep:∀I μ(n:Nat),n<len->J n->(J (n+1)->I ((IntKind.i64.wrap ((n:Int)+1),()),())/\μ ((IntKind.i64.wrap ((n:Int)+1),()),())<μ (((n:Int),()),()))->B I μ (((n:Int),()),()))
 (hend:∀I μ,J len->B I μ (((len:Int),()),())):∃I,∃μ,I (((0:Int),()),())/\∀y,I y->B I μ y:=by
 refine⟨λy=>∃n:Nat,y.1.1=n/\n<=len/\J n,λy=>((len:Int)-y.1.1).toNat,⟨0,rfl,Zm _,h0⟩,?_⟩
 grind [dP]
theorem QW{Y S:Type}(mk:Int->S->Y)(idx:Y->Int)(hidx:∀i s,idx (mk i s)=i){B:(Y->Prop)->(Y->Nat)->Y->Prop}(len:Nat)(hlen:len<=9223372036854775807)(J:Nat->S->Prop){s0:S}(h0:J 0 s0)
 (hstep:∀I μ(n:Nat)(s:S),n<len->J n s->(∀s',J (n+1) s'->I (mk (IntKind.i64.wrap ((n:Int)+1)) s')/\μ (mk (IntKind.i64.wrap ((n:Int)+1)) s')<μ (mk n s))->B I μ (mk n s))
 (hend:∀I μ s,J len s->B I μ (mk len s)):∃I,∃μ,I (mk 0 s0)/\∀y,I y->B I μ y:=by
 refine⟨λy=>∃(n:Nat)(s:S),y=mk n s/\n<=len/\J n s,λy=>((len:Int)-idx y).toNat,⟨0,s0,rfl,Zm _,h0⟩,?_⟩
 grind [dP]
theorem U4{p:Prop}[Decidable p](h:decide p=true):p:=ZK h
theorem U5{p:Prop}[Decidable p](h:decide p=false):¬p:=of_decide_eq_false h
end Go.Fw
namespace Sp
open Go Go.Fw
end Sp
namespace Sp
open Go Go.Fw
end Sp
namespace Sp
open Go
def nameOf(d:List aJ)(i:Nat):Bytes:=(gW d i).1
def sK(d:List aJ)(i:Nat):List aS:=(gW d i).2.1
def Ti(r:List ig)(i:Nat):ig:=r.getD i ([],[],())
def xP(r:List ig)(i:Nat):List (Int×Unit):=(Ti r i).2.1
def V5(d:List aJ)(bW:List (Int×Unit)):Prop:=
 bW.length=d.length/\(∀i,i<d.length->0<=lv bW i/\lv bW i<=d.length)/\(wK (ng d) λi=>(lv bW i).toNat)/\∀M,wK (ng d) M->∀i,i<d.length->lv bW i<=M i
def Ru(d:List aJ)(bW:List (Int×Unit))(s:Bytes):Nat:=(lv bW (fM d s).toNat).toNat
def due(d:List aJ)(nm:Bytes->Bool)(s:Bytes):Prop:=nm s=true/\∃i,i<d.length/\nameOf d i=s
def Iq(d:List aJ)(out:List ig):Prop:=out.length=d.length/\∀i,i<d.length->(Ti out i).1=nameOf d i
structure Tj(fs:List aK)(d:List aJ)(r:List ig)(nm:Bytes->Bool)(out:List ig):Prop where
 order:Iq d out
 kept:∀i,i<d.length->nm (nameOf d i)=false->xP out i=qV r (nameOf d i)
 fix:∀i,i<d.length->nm (nameOf d i)=true->xP out i=sel fs (sK d i) (xO out)
 bW:∃bW,V5 d bW/\Eval (OJ fs d) (due d nm) (Ru d bW) (xO out)
def Ar{ι α:Type}(S:Sys ι α)(N:ι->Prop)(bW:ι->Nat)(k:Nat)(X:Ext ι α):Prop:=
 ∀Y:Ext ι α,(∀i,¬(N i/\bW i=k)->∀x,Y i x=X i x)->(∀i,N i->bW i=k->∀x,S.T i Y x->Y i x=true)->∀i,N i->bW i=k->∀x,X i x=true->Y i x=true
open Classical in
theorem Uj{ι α:Type}{S:Sys ι α}{N:ι->Prop}{bW:ι->Nat}(hs:V4 S N bW){m:Nat}{X X':Ext ι α}(h:∀i,¬(N i/\m<bW i)->∀x,X i x=X' i x)(hX:Ar S N bW m X):Ar S N bW m X':=by
 intro Y hY hp i hi hl x hx;have key:=hX (λi x=>if N i/\m<bW i then X i x else Y i x) (λj hj y=>?_) (λj hj hlj y hy=>?_) i hi hl x (by grind)
 · grind
 · grind
 .rw[if_neg (by omega)];have same:∀t,(S.pos j t\/S.neg j t)->¬(N t/\m<bW t):=λt ht hc=>by
   rcases ht with ht|ht
   .have:=(hs j t hj hc.1).1 ht;omega
   .have:=(hs j t hj hc.1).2 ht;omega
  refine hp j hj hlj y (S.mono j _ Y (λt ht z hz=>?_) (λt ht z=>?_) y hy)
  · grind
  grind
def canon(fs:List aK)(l:List (Int×Unit)):Prop:=l=(fs.filter λf=>uV l f.1).map λf=>(f.1,())
structure XM(fs:List aK)(d:List aJ)(r:List ig)(nm:Bytes->Bool)(bW:List (Int×Unit))(k:Nat)(out:List ig):Prop where
 order:Iq d out
 kept:∀i,i<d.length->nm (nameOf d i)=false->xP out i=qV r (nameOf d i)
 later:∀i,i<d.length->nm (nameOf d i)=true->(k:Int)<lv bW i->xP out i=[]
 done:∀i,i<d.length->nm (nameOf d i)=true->lv bW i<k->xP out i=sel fs (sK d i) (xO out)
 Ym:∀m,m<k->Ar (OJ fs d) (due d nm) (Ru d bW) m (xO out)
 YL:∀i,i<d.length->nm (nameOf d i)=true->lv bW i=k->∀x,uV (xP out i) x=true->(x,())∈sel fs (sK d i) (xO out)
 least:Ar (OJ fs d) (due d nm) (Ru d bW) k (xO out)
 canon:∀i,i<d.length->nm (nameOf d i)=true->canon fs (xP out i)
def room(n:Nat)(out:List ig):Nat:=(out.map λx=>n-x.2.1.length).sum
end Sp
namespace Sp
open Go
abbrev Au:=Bytes×List (Int×Unit)×List (Int×Unit)×Unit
abbrev fA:=List dD×List aK×Int×List aJ×List ig×Unit
instance:DecidableEq (List (Int×Unit)):=inferInstance
instance:DecidableEq ig:=inferInstance
instance:DecidableEq (List ig):=inferInstance
instance:DecidableEq (List ig×Unit):=inferInstance
instance:DecidableEq (List aJ×List ig×Unit):=inferInstance
instance:DecidableEq (Int×List aJ×List ig×Unit):=inferInstance
instance:DecidableEq (List aK×Int×List aJ×List ig×Unit):=inferInstance
instance YM:DecidableEq fA:=(inferInstance:DecidableEq (List dD×List aK×Int×List aJ×List ig×Unit))
def fO(c:fA):cZ:=(c.1,c.2.1,c.2.2.1,())
def iW(c:fA):List aJ:=c.2.2.2.1
def KQ(c:fA):List ig:=c.2.2.2.2.1
open Classical in
noncomputable def xQ (c:fA):Bool:=rZ (iW c)&&sJ (fO c)&&decide (Tj c.2.1 (iW c) [] (λ_=>true) (KQ c))
def Rw(f g:aK):List Bytes:=((f.2.2.2.2.1++g.2.2.2.2.1).map λa=>a.1).filter λs=>!decide (qw f.2.2.2.2.1 s=qw g.2.2.2.2.1 s)
def Uk(q:List aS):List Bytes:=(q.filter λn=>n.1==2||(n.1==3||n.1==4)).map λn=>n.2.2.2.1
def Vl(q:List aS):List Bytes:=(q.filter Fh).map λn=>n.2.2.2.1
def linked(q:List aS):Bool:=q.any λn=>n.1==9
inductive Reach(d:List aJ)(P:Bytes->Prop):Bytes->Prop where
 |base {s}:P s->Reach d P s
 |step {s i}:Reach d P s->i<d.length->s∈Vl (sK d i)->Reach d P (nameOf d i)
def Rx(d:List aJ)(f g:aK)(s:Bytes):Prop:=
 ∃i,i<d.length/\nameOf d i=s/\(f.1≠g.1\/(∃t,t∈Uk (sK d i)/\t∈Rw f g)\/(linked (sK d i)=true/\f.2.2.2.1≠g.2.2.2.1))
def Yn(d:List aJ)(f g:aK):Bytes->Prop:=Reach d (Rx d f g)
open Classical in
noncomputable def YN (d:List aJ) (f g:aK) (s:Bytes):Bool:=decide (Yn d f g s)
def without(a b:List (Int×Unit)):List (Int×Unit):=a.filter λx=>!uV b x.1
def Vm(a:List ig)(x:ig):Au:=(x.1,without x.2.1 (qV a x.1),without (qV a x.1) x.2.1,())
def Vo(y:Au):Bool:=decide (0<y.2.1.length+y.2.2.1.length)
def Tm(a b:List ig):List Au:=(b.map (Vm a)).filter Vo
def XC(l:List (Int×Unit))(n:Int):List (Int×Unit):=
 let k:=(l.takeWhile λx=>decide (x.1<n)).length
 bif decide (k<l.length)&&(l.getD k (0,())).1==n then l else l.take k++[(n,())]++l.drop k
def Qh(l:List (Int×Unit))(xs:List (Int×Unit)):List (Int×Unit):=xs.foldl (λl x=>XC l x.1) l
def Ry(l x y:List (Int×Unit)):List (Int×Unit):=Qh (Qh [] (l.filter λz=>!uV y z.1)) x
end Sp
namespace Sp
open Go
end Sp
namespace Sp
open Go
end Sp
namespace Sp
open Go
def belowD(name:Bytes)(x:aJ):Bool:=Op.bytesLess x.1 name
def Qi(name:Bytes)(x:aJ):Bool:=!(x.1==name)
def Qj(d:List aJ)(x:aJ):List aJ:=d.takeWhile (belowD x.1)++x::(d.dropWhile (belowD x.1)).filter (Qi x.1)
def KR(d:List aJ)(x:aJ):List aJ×Bool:=bif Fj d&&Fj (Qj d x)then(Qj d x,true)else(d,false)
def became(c:fA)(s:cZ)(d:List aJ)(ok0:Bool)(c':fA)(df:List Au)(ok:Bool):Prop:=
 ok=ok0/\(ok=true->fO c'=s/\iW c'=d/\xQ c'=true/\df=Tm (KQ c) (KQ c'))/\(ok=false->c'=c/\df=[])
def named(f:aK)(w:Bytes):aK:=(f.1,f.2.1,f.2.2.1,f.2.2.2.1,MQ f.2.2.2.2.1 [110] 2 0 w,())
def Dy(c:fA)(u id:Int):Bool:=(xM (fO c) id).2&&Ro (xM (fO c) id).1 u
end Sp
namespace Sp
open Go
def Ul(d:List aJ)(name:Bytes):List aJ:=d.filter (Qi name)
def removeDir(d:List aJ)(name:Bytes):List aJ×Bool:=bif Fj d&&decide (0<=fM d name)then(Ul d name,true)else(d,false)
def Fv(u:Int):Bool:=decide (0<=u)&&decide (u<=2)
def iO(x:dw):aK:=(x.2.1,x.2.2.1,x.2.2.2.1,x.2.2.2.2.1,x.2.2.2.2.2.1,())
def xR(x:dw):Int:=x.2.2.2.2.2.2.1
def kQ(x:dw):aJ:=(x.2.2.2.2.2.2.2.1,x.2.2.2.2.2.2.2.2.1,())
def Um(c:fA)(x:dw):cZ:=
 bif x.1==1 then(Fe (fO c) (iO x)).1 else bif x.1==2 then(vI (fO c) (iO x)).1 else bif x.1==3 then(Fg (fO c) (xR x)).1 else fO c
def Vp(c:fA)(x:dw):List aJ:=bif x.1==4 then(KR (iW c) (kQ x)).1 else bif x.1==5 then(removeDir (iW c) (kQ x).1).1 else iW c
noncomputable def V6 (c:fA) (u:Int) (x:dw):Bool:=
 bif x.1==1 then decide ((iO x).2.1=u)&&(Fe (fO c) (iO x)).2.2 else
 bif x.1==2 then(Dy c u (iO x).1&&decide ((iO x).2.1=u))&&(vI (fO c) (iO x)).2 else
 bif x.1==3 then Dy c u (xR x)&&(Fg (fO c) (xR x)).2 else
 bif x.1==4 then(KR (iW c) (kQ x)).2&&rZ (KR (iW c) (kQ x)).1 else
 bif x.1==5 then(removeDir (iW c) (kQ x).1).2 else false
noncomputable def XD (c:fA) (u:Int) (x:dw):Bool:=(Fv u&&xQ c)&&V6 c u x
def applied(c:fA)(u:Int)(x:dw)(c':fA)(df:List Au)(ok:Bool):Prop:=became c (Um c x) (Vp c x) (XD c u x) c' df ok
def Rz(f:aK):Int:=1+f.2.2.2.2.1.length
def zT(fs:List aK)(u:Int):Int:=((fs.filter λf=>decide (f.2.1=u)).map Rz).sum
def GI(q:List (Int×Unit))(u:Int):Int:=bif decide (0<=u)&&decide (u<=(q.length:Int)-1)then(q.getD u.toNat (0,())).1 else 0
def MZ(fs:List aK)(q:List (Int×Unit)):Bool:=decide (zT fs 0<=GI q 0)&&(decide (zT fs 1<=GI q 1)&&decide (zT fs 2<=GI q 2))
def KT(u:Int):fA->List dw->fA->Prop
 |c,[],c'=>c'=c
 |c,x::r,c'=>∃c1 df,applied c u x c1 df true/\KT u c1 r c'
def Fz(c:fA)(u:Int)(l:List dw)(q:List (Int×Unit))(c':fA)(df:List Au)(ok:Bool):Prop:=
 (ok=true↔xQ c=true/\l.length<=6/\∃c2,KT u c l c2/\MZ c2.2.1 q=true)/\(ok=true->KT u c l c'/\df=Tm (KQ c) (KQ c'))/\(ok=false->c'=c/\df=[])
end Sp
namespace Sp
open Go
def Vq(b:UInt8):Bool:=decide (32<=b.toNat)&&decide (b.toNat<=126)
def wordsOf(s:Bytes):LS:=(Lib.fields s).map (·,())
def Na(s:Bytes):Bool:=decide ((s.length:Int)<=600)&&s.all Vq&&decide (((Lib.fields s).length:Int)<=24)
def Vr(s:Bytes):LS:=bif Na s then wordsOf s else[]
def nT(s:Bytes):Int:=s.foldl (λn b=>10*n+((b.toNat:Int)-48)) 0
def ny(s:Bytes):Bool:=jI (nT s)&&(Lib.itoa (nT s)==s)
def parseNum(s:Bytes):Int:=bif ny s then nT s else 0
def wordAt(w:LS)(i:Int):Bytes:=bif decide (i>=(w.length:Int))then[]else(w.getD i.toNat ([],())).1
def Tn(w:LS):Bytes:=Lib.join (w.map (·.1)) [32]
def numAt(w:LS)(i:Int):Int:=parseNum (wordAt w i)
end Sp
namespace Sp
open Go
theorem RD(u:Nat):Lib.itoa (u:Int)=Lib.decDigits u:=by grind [Lib.itoa]
theorem IV(s:Bytes)(d:UInt8):nT (s++[d])=10*nT s+((d.toNat:Int)-48):=by grind [nT]
theorem byte_of(d:Nat)(h:d<10):(UInt8.ofNat (48+d)).toNat=48+d:=by rw[UInt8.toNat_ofNat'];omega
theorem wM(s:List UInt8):∀(acc:Nat)(n:Nat),Lib.decFrom acc s=some n->∀d,d<10->Lib.decFrom acc (s++[UInt8.ofNat (48+d)])=some (n*10+d):=by
 intro acc n h d hd
 induction s generalizing acc with
 |nil=>
  have:∀d:Fin 10,Lib.digitVal (UInt8.ofNat (48+d.val))=some d.val:=by decide
  have h2:=this ⟨d,hd⟩
  grind [Lib.decFrom]
 |cons a r ih=>
  grind [Lib.decFrom]
theorem qY:∀(k u:Nat),u<10 ^ (k+1)->nT (Lib.decDigits u)=u/\Lib.decFrom 0 (Lib.decDigits u)=some u/\(∀b∈Lib.decDigits u,48<=b.toNat/\b.toNat<=57)/\Lib.decDigits u≠[]/\(Lib.decDigits u).length<=k+1
 |0,u,h=>by
  rw[Lib.decDigits_one h];have hb:=byte_of u h;have:=wM [] 0 0 rfl u h;refine⟨?_,?_,λb hm=>?_,List.cons_ne_nil _ _,Zg _⟩
  .show 10*0+_=_;omega
  · grind
  grind
 |k+1,u,h=>by
  by_cases h1:u<10
  .have:=qY 0 u (by simpa using h1)
   grind
  .have hd:u / 10<10 ^ (k+1):=by omega
   obtain⟨i1,i2,i3,i4,i5⟩:=qY k (u / 10) hd;have e:Lib.decDigits u=Lib.decDigits (u / 10)++[UInt8.ofNat (48+u%10)]:=by
    grind [Lib.decDigits]
   have hm:u%10<10:=aax _ (by decide);have hb:=byte_of (u%10) hm;rw[e];refine⟨by grind [IV],?_,λb hb2=>?_,by simp,by simp;omega⟩
   .rw[wM _ _ _ i2 _ hm];congr 1;omega
   grind
theorem OL{n:Int}:jI n=true↔0<=n/\n<=1000000000:=by
 grind [jI]
theorem Qk{n:Int}(h:jI n=true):nT (Lib.itoa n)=n/\Lib.atoi (Lib.itoa n)=some n/\(∀b∈Lib.itoa n,48<=b.toNat/\b.toNat<=57)/\Lib.itoa n≠[]/\(Lib.itoa n).length<=10:=by
 obtain⟨h0,h1⟩:=OL.1 h;obtain⟨u,rfl⟩:=Int.eq_ofNat_of_zero_le h0;have hu:u<10 ^ (9+1):=by omega
 rw[RD];obtain⟨i1,i2,i3,i4,i5⟩:=qY 9 u hu;cases hd:Lib.decDigits u with
 |nil=>grind
 |cons b r=>
  have n45:(b==45)=false:=by rw[aac];intro e;simp_all
  have n43:(b==43)=false:=by rw[aac];intro e;simp_all
  grind [Lib.atoi,Lib.decNat]
theorem BP{s:Bytes}:ny s=true↔jI (nT s)=true/\Lib.itoa (nT s)=s:=by
 grind [ny]
theorem OM{s:Bytes}{n:Int}(h:jI n=true)(e:Lib.itoa n=s):ny s=true/\parseNum s=n:=by
 grind [Qk,BP,parseNum]
theorem OO{n:Int}(h:jI n=true):ny (Lib.itoa n)=true/\parseNum (Lib.itoa n)=n:=OM h rfl
theorem IW{s:Bytes}(h:ny s=true):Lib.itoa (parseNum s)=s/\jI (parseNum s)=true:=by
 grind [parseNum,BP]
theorem IX(s:Bytes):jI (parseNum s)=true:=by
 cases h:ny s with
 |true=>exact(IW h).2
 |false=>unfold parseNum;rw[h];rfl
end Sp
namespace Sp
open Go
end Sp
namespace Sp
open Go
theorem E8(w:LS)(i:Int)(h:wordAt w i=Lib.itoa (numAt w i)):ny (wordAt w i)=true:=by rw[h];exact(OO (IX _)).1
end Sp
namespace Sp
open Go
end Sp
namespace Sp
open Go
inductive QT where
 |leaf (n:aS)
 |neg (t:QT)
 |two (op:Int) (a b:QT)
def Vs(op:Int):Bytes:=
 bif op==1 then[97,108,108]else bif op==2 then[104,97,115]else bif op==3 then[101,113]else bif op==4 then[108,116]else
 bif op==5 then[110,111,116]else bif op==6 then[97,110,100]else bif op==7 then[111,114]else bif op==8 then[105,110]else
 bif op==9 then[108,105,110,107,101,100]else[63]
def gm(w:Bytes):Int:=
 bif w==[97,108,108]then 1 else bif w==[104,97,115]then 2 else bif w==[101,113]then 3 else bif w==[108,116]then 4 else
 bif w==[110,111,116]then 5 else bif w==[97,110,100]then 6 else bif w==[111,114]then 7 else bif w==[105,110]then 8 else
 bif w==[108,105,110,107,101,100]then 9 else 0
def zU(s:Bytes):Fb×Bool:=
 bif ny s then(bif decide (parseNum s<=999)then((1,parseNum s,[],()),true)else((0,0,[],()),false))
 else bif s==[45]then((0,0,[],()),true)else bif qo s then((2,0,s,()),true)else((0,0,[],()),false)
def Nb(v:Fb):Bytes:=
 bif !Aq v.1 v.2.1 v.2.2.1 then[63]else bif v.1==1 then Lib.itoa v.2.1 else bif v.1==2 then v.2.2.1 else[45]
def QT.size:QT->Nat
 |.leaf _=>1
 |.neg t=>t.size+1
 |.two _ a b=>a.size+b.size+1
def post:QT->Nat->List aS
 |.leaf n,_=>[n]
 |.neg t,b=>post t b++[(5,((b+t.size:Nat):Int)-1,0,[],0,0,[],())]
 |.two op x y,b=>post x b++(post y (b+x.size)++[(op,((b+x.size:Nat):Int)-1,((b+x.size+y.size:Nat):Int)-1,[],0,0,[],())])
def Vt(n:aS):List Bytes:=
 Vs n.1::(bif n.1==2||(n.1==8||n.1==9)then[n.2.2.2.1]else bif n.1==3||n.1==4 then[n.2.2.2.1,Nb n.2.2.2.2]else[])
def ls(w:List Bytes):LS:=w.map (·,())
def rd:Nat->LS->List aS->Bool×LS×List aS
 |0,w,q=>(false,w,q)
 |k+1,w,q=>
  bif gm (wordAt w 0)==2||(gm (wordAt w 0)==8||gm (wordAt w 0)==9)then(true,(w.drop 1).drop 1,q++[(gm (wordAt w 0),0,0,wordAt (w.drop 1) 0,0,0,[],())])
  else bif gm (wordAt w 0)==3||gm (wordAt w 0)==4 then
   ((zU (wordAt ((w.drop 1).drop 1) 0)).2,((w.drop 1).drop 1).drop 1,q++[(gm (wordAt w 0),0,0,wordAt (w.drop 1) 0,(zU (wordAt ((w.drop 1).drop 1) 0)).1)])
  else bif gm (wordAt w 0)==5 then
   ((rd k (w.drop 1) q).1,(rd k (w.drop 1) q).2.1,(rd k (w.drop 1) q).2.2++[(5,((rd k (w.drop 1) q).2.2.length:Int)-1,0,[],0,0,[],())])
  else bif gm (wordAt w 0)==6||gm (wordAt w 0)==7 then
   (bif (rd k (w.drop 1) q).1 then
     ((rd k (rd k (w.drop 1) q).2.1 (rd k (w.drop 1) q).2.2).1,(rd k (rd k (w.drop 1) q).2.1 (rd k (w.drop 1) q).2.2).2.1,
       (rd k (rd k (w.drop 1) q).2.1 (rd k (w.drop 1) q).2.2).2.2++[(gm (wordAt w 0),((rd k (w.drop 1) q).2.2.length:Int)-1,((rd k (rd k (w.drop 1) q).2.1 (rd k (w.drop 1) q).2.2).2.2.length:Int)-1,[],0,0,[],())])
   else(false,(rd k (w.drop 1) q).2.1,(rd k (w.drop 1) q).2.2++[(gm (wordAt w 0),((rd k (w.drop 1) q).2.2.length:Int)-1,((rd k (w.drop 1) q).2.2.length:Int)-1,[],0,0,[],())]))
  else(!(gm (wordAt w 0)==0),w.drop 1,q++[(gm (wordAt w 0),0,0,[],0,0,[],())])
end Sp
namespace Sp
open Go
end Sp
namespace Sp
open Go
def rs:Nat->LS->List aS->List aS×Int
 |0,_,q=>(q,0)
 |d+1,w,q=>
  bif gm (wordAt w 0)==0||decide ((q.length:Int)>9)then(q,0)
  else bif gm (wordAt w 0)==2||(gm (wordAt w 0)==8||gm (wordAt w 0)==9)then(q++[(gm (wordAt w 0),0,0,wordAt w 1,0,0,[],())],2)
  else bif gm (wordAt w 0)==3||gm (wordAt w 0)==4 then(q++[(gm (wordAt w 0),0,0,wordAt w 1,(zU (wordAt w 2)).1)],3)
  else bif gm (wordAt w 0)==5||(gm (wordAt w 0)==6||gm (wordAt w 0)==7)then
   (bif (rs d (w.drop 1) q).2==0 then((rs d (w.drop 1) q).1,0)
   else bif gm (wordAt w 0)==5 then((rs d (w.drop 1) q).1++[(5,((rs d (w.drop 1) q).1.length:Int)-1,0,[],0,0,[],())],1+(rs d (w.drop 1) q).2)
   else bif (rs d (w.drop (1+(rs d (w.drop 1) q).2).toNat) (rs d (w.drop 1) q).1).2==0 then((rs d (w.drop (1+(rs d (w.drop 1) q).2).toNat) (rs d (w.drop 1) q).1).1,0)
   else((rs d (w.drop (1+(rs d (w.drop 1) q).2).toNat) (rs d (w.drop 1) q).1).1++[(gm (wordAt w 0),((rs d (w.drop 1) q).1.length:Int)-1,((rs d (w.drop (1+(rs d (w.drop 1) q).2).toNat) (rs d (w.drop 1) q).1).1.length:Int)-1,[],0,0,[],())],
    1+(rs d (w.drop 1) q).2+(rs d (w.drop (1+(rs d (w.drop 1) q).2).toNat) (rs d (w.drop 1) q).1).2))
  else(q++[(gm (wordAt w 0),0,0,[],0,0,[],())],1)
end Sp
namespace Sp
open Go
end Sp
namespace Sp
open Go
def FB:Nat->List aS->Int->List Bytes
 |0,_,_=>[]
 |k+1,q,i=>
  bif (nodeAt q i.toNat).1==5 then Vs (nodeAt q i.toNat).1::FB k q (nodeAt q i.toNat).2.1
  else bif (nodeAt q i.toNat).1==6||(nodeAt q i.toNat).1==7 then Vs (nodeAt q i.toNat).1::(FB k q (nodeAt q i.toNat).2.1++FB k q (nodeAt q i.toNat).2.2.1)
  else Vt (nodeAt q i.toNat)
def textOf(q:List aS):Bytes:=bif eU q then Lib.join (FB 9 q ((q.length:Int)-1)) [32]else[]
def Jd(w:LS):Bool×LS×List aS:=rd (w.length+1) w []
def Un(s:Bytes):Bool:=Na s&&((Jd (wordsOf s)).1&&(!decide (((Jd (wordsOf s)).2.1.length:Int)>0)&&eU (Jd (wordsOf s)).2.2))
def Ql(s:Bytes):List aS:=bif Un s then(Jd (wordsOf s)).2.2 else[]
end Sp
namespace Sp
open Go
def RG:Bytes:=[99,114,101,97,116,101]
def RH:Bytes:=[117,112,100,97,116,101]
def RJ:Bytes:=[100,101,108,101,116,101]
def RN:Bytes:=[100,101,102,105,110,101]
def OQ:Bytes:=[117,110,100,101,102,105,110,101]
end Sp
namespace Sp
open Go
end Sp
namespace Sp
open Go
def Vu(a:bn):Bool:=wI a.1&&(Aq a.2.1 a.2.2.1 a.2.2.2.1&&!(a.2.1==0))
def Qm(f:aK):Bool:=f.2.2.2.2.1.all Vu&&(jI f.1&&(jI f.2.1&&jI f.2.2.2.1))
def FC:List bn->List Bytes
 |[]=>[]
 |a::r=>a.1::Nb a.2::FC r
def OT(f:aK):List Bytes:=Lib.itoa f.2.1::(bif f.2.2.1 then[115]else[111])::Lib.itoa f.2.2.2.1::FC f.2.2.2.2.1
def Vw:aK:=(0,0,false,0,[],())
def Qn(q:List aS):Bool:=eU q&&decide (Ql (textOf q)=q)
def OU(x:dw):Bool:=(kQ x).1==[]&&(kQ x).2.1.isEmpty
def RP(x:dw):List Bytes:=
 bif x.1==1&&(Qm (iO x)&&((iO x).1==0&&(xR x==0&&OU x)))then RG::OT (iO x)
 else bif x.1==2&&(Qm (iO x)&&(xR x==0&&OU x))then RH::Lib.itoa (iO x).1::OT (iO x)
 else bif x.1==3&&(decide (iO x=Vw)&&(jI (xR x)&&OU x))then[RJ,Lib.itoa (xR x)]
 else bif x.1==4&&(decide (iO x=Vw)&&(xR x==0&&(qo (kQ x).1&&Qn (kQ x).2.1)))then RN::(kQ x).1::FB 9 (kQ x).2.1 (((kQ x).2.1.length:Int)-1)
 else bif x.1==5&&(decide (iO x=Vw)&&(xR x==0&&(qo (kQ x).1&&(kQ x).2.1.isEmpty)))then[OQ,(kQ x).1]
 else[]
def Ir(x:dw):Bytes:=Lib.join (RP x) [32]
end Sp
namespace Sp
open Go
def KU:LS->List bn
 |[]=>[]
 |[x]=>[(x.1,(zU []).1)]
 |x::y::r=>(x.1,(zU y.1).1)::KU r
def V7(id:Int)(r:LS):aK:=(id,numAt r 0,wordAt r 1==[115],numAt r 2,KU (r.drop 3),())
def passes(x:dw)(w:LS):Prop:=Ir x≠[]/\Ir x=Tn w
end Sp
namespace Sp
open Go
def Dz(b:UInt8):Bytes->Bytes->LS
 |cur,[]=>[(cur,())]
 |cur,x::l=>bif x==b then(cur,())::Dz b [] l else Dz b (cur++[x]) l
def pieces(b:UInt8)(s:Bytes):LS:=Dz b [] s
def Qo:Bytes:=[102,105,108,101]
def RQ(f:aK):Bytes:=Lib.join (Qo::Lib.itoa f.1::OT f) [32]
end Sp
namespace Sp
open Go
end Sp
namespace Sp
open Go
end Sp
namespace Sp
open Go
end Sp
namespace Sp
open Go
end Sp
namespace Sp
open Go
end Sp
namespace Sp
open Go
end Sp
namespace Sp
open Go
end Sp
namespace Sp
open Go
end Sp
namespace Sp
open Go
end Sp
namespace Sp
open Go
end Sp
namespace Sp
open Go
abbrev qE:=Bool×List bn×Unit
def uj:qE:=(false,[],())
def Vx(l:List bn)(x:bn):Bool:=l.any λy=>y.1==x.1
def Vy(l:List bn)(x:bn):Bool:=l.any λy=>y.1==x.1&&!decide (y.2=x.2)
def Qp(name:Bytes)(y:bn):Bool:=Op.bytesLess y.1 name
def XF(l:List bn)(x:bn):List bn:=l.takeWhile (Qp x.1)++x::l.dropWhile (Qp x.1)
def KW(a:List bn):List bn->List bn->Option (List bn)
 |acc,[]=>some acc
 |acc,x::r=>bif Vy a x then none else bif Vx a x then KW a acc r else KW a (XF acc x) r
def V8:Option (List bn)->qE
 |some l=>(true,l,())
 |none=>uj
def Vz(a b:qE):qE:=bif a.1&&b.1 then V8 (KW a.2.1 a.2.1 b.2.1)else uj
def XG(a b:qE):qE:=bif a.1==b.1 then uj else bif a.1 then a else b
def wO(q:List aS)(f:aK)(X:BX)(a:Nat)(m:Bool):qE:=
 if val q f X a=m then(true,[],())
 else if(nodeAt q a).1=5 then(if h:(nodeAt q a).2.1.toNat<a then wO q f X (nodeAt q a).2.1.toNat (!m)else uj)
 else if iV (nodeAt q a)=true then(if h:(nodeAt q a).2.1.toNat<a/\(nodeAt q a).2.2.1.toNat<a then
  (bif ((nodeAt q a).1==6)==m then Vz (wO q f X (nodeAt q a).2.1.toNat m) (wO q f X (nodeAt q a).2.2.1.toNat m)
   else XG (wO q f X (nodeAt q a).2.1.toNat m) (wO q f X (nodeAt q a).2.2.1.toNat m))else uj)
 else if(nodeAt q a).1=3/\m=true then(true,[((nodeAt q a).2.2.2.1,(nodeAt q a).2.2.2.2.1,(nodeAt q a).2.2.2.2.2.1,(nodeAt q a).2.2.2.2.2.2.1,())],())
 else if(nodeAt q a).1=2/\m=false then(true,[((nodeAt q a).2.2.2.1,0,0,[],())],())
 else uj
termination_by a
decreasing_by all_goals omega
end Sp
namespace Sp
open Go
def VA(a l:List bn):List bn:=l.foldl (λa x=>MQ a x.1 x.2.1 x.2.2.1 x.2.2.2.1) a
def Qq(l:List bn)(i:Nat):List bn:=l.take i++l.drop (i+1)
def edited(f:aK)(l:List bn):aK:=(f.1,f.2.1,f.2.2.1,f.2.2.2.1,VA f.2.2.2.2.1 l,())
end Sp
namespace Sp
open Go
open Classical in
noncomputable def FD (fs:List aK) (d:List aJ):List ig:=if h:∃out,Tj fs d [] (λ_=>true) out then h.choose else[]
noncomputable def Uo (s:cZ) (d:List aJ) (u:Int) (name:Bytes):List (Int×Unit):=qV (FD (visible s u).2.1 d) name
noncomputable def listed (s:cZ) (d:List aJ) (u:Int) (name:Bytes) (id:Int):Bool:=uV (Uo s d u name) id
def Nc(d:List aJ)(name:Bytes):aJ×Bool:=bif decide (fM d name<0)then(([],[],()),false)else(gW d (fM d name).toNat,true)
def VB(s:cZ)(u id:Int):aK:=(xM (visible s u) id).1
def V9(q:List aS)(f:aK)(X:BX)(m:Bool):qE:=bif eU q then wO q f X (q.length-1) m else uj
noncomputable def OV (c:fA) (u:Int) (name:Bytes) (id:Int) (b:Bool):qE:=
 V9 (Nc (iW c) name).1.2.1 (VB (fO c) u id) (xO (FD (visible (fO c) u).2.1 (iW c))) b
def KX(c:fA)(id:Int)(l:List bn):cZ×Bool:=vI (fO c) (edited (xM (fO c) id).1 l)
noncomputable def needed (c:fA) (u:Int) (name:Bytes) (id:Int) (b:Bool) (l:List bn) (i:Nat):Bool:=
 (KX c id (Qq l i)).2&&!(listed (KX c id (Qq l i)).1 (iW c) u name id==b)
noncomputable def VD (c:fA) (u:Int) (name:Bytes) (id:Int) (b:Bool) (w:qE):Bool:=
 w.1&&((KX c id w.2.1).2&&((listed (KX c id w.2.1).1 (iW c) u name id==b)&&lH w.2.1.length (needed c u name id b w.2.1)))
noncomputable def XH (c:fA) (u:Int) (name:Bytes) (id:Int) (b:Bool):Bool:=
 (xQ c&&(Dy c u id&&(Nc (iW c) name).2))&&VD c u name id b (OV c u name id b)
def written(c:fA)(u:Int)(name:Bytes)(id:Int)(b:Bool)(c':fA)(set:List bn)(ok:Bool):Prop:=
 ok=XH c u name id b/\(ok=true->fO c'=(KX c id (OV c u name id b).2.1).1/\iW c'=iW c/\xQ c'=true/\set=(OV c u name id b).2.1)/\(ok=false->c'=c/\set=[])
end Sp
namespace Sp
open Go
def GK:Bytes:=[102,105,101,108,100]
def Qr:Bytes:=[110,101,120,116]
def Tq:Bytes:=[100,105,114]
def Tt:Bytes:=[105,110,116]
def RU:Bytes:=[115,116,114,105,110,103]
def Qs(f:dD):Bytes:=bif !wI f.1 then[]else bif f.2.1==1 then GK++32::(f.1++32::Tt)else bif f.2.1==2 then GK++32::(f.1++32::RU)else[]
def RV(n:Int):Bytes:=Qr++32::Lib.itoa n
def Ur(d:aJ):Bytes:=Tq++32::(d.1++32::textOf d.2.1)
def VE(x:eY):List Bytes:=x.1.map Qs++(RV x.2.2.1::(x.2.1.map RQ++x.2.2.2.1.map Ur))
noncomputable def enc (x:eY):LS:=bif Fp x then ls (VE x)else[]
def FH:eY:=([],[],0,[],())
def Wh(x:eY)(w:LS):eY:=
 bif wordAt w 0==GK then(x.1++[(wordAt w 1,(bif wordAt w 2==Tt then 1 else 2),())],x.2.1,x.2.2.1,x.2.2.2.1,())
 else bif wordAt w 0==Qr then(x.1,x.2.1,numAt w 1,x.2.2.2.1,())
 else bif wordAt w 0==Qo then(x.1,x.2.1++[V7 (numAt w 1) (w.drop 2)],x.2.2.1,x.2.2.2.1,())
 else bif wordAt w 0==Tq then(x.1,x.2.1,x.2.2.1,x.2.2.2.1++[(wordAt w 1,(bif decide (2<(w.length:Int))then Ql (Tn (w.drop 2))else[]),())],())
 else x
def OW:eY->LS->eY
 |x,[]=>x
 |x,l::r=>OW (Wh x (Vr l.1)) r
noncomputable def dec (l:LS):eY×Bool:=bif Fp (OW FH l)&&decide (enc (OW FH l)=l)then(OW FH l,true)else(FH,false)
end Sp
namespace Sp
open Go
def sumOf(s:Bytes):Int:=s.foldl (λn b=>(33*n+(b.toNat:Int)).tmod 65521) 3
def linesT(ws:List Bytes):Bytes:=(ws.map (· ++[10])).flatten
def KY(n:Int)(x:eY):Bytes:=linesT (Lib.itoa n::VE x)
noncomputable def slot (n:Int) (x:eY):Bytes:=bif Fp x&&(decide (1<=n)&&decide (n<=1000000000))then KY n x++(Lib.itoa (sumOf (KY n x))++[46])else[]
def inner(l:LS):LS:=(l.take (l.length-1)).drop 1
noncomputable def lI (s:Bytes):Int×eY×Bool:=
 bif decide (2<=(pieces 10 s).length)&&((dec (inner (pieces 10 s))).2&&decide (slot (parseNum ((pieces 10 s).getD 0 ([],())).1) (dec (inner (pieces 10 s))).1=s))then(parseNum ((pieces 10 s).getD 0 ([],())).1,(dec (inner (pieces 10 s))).1,true)else(0,FH,false)
noncomputable def latest (a b:Bytes):Int×eY×Bool×Bool:=
 bif (lI b).2.2&&(!(lI a).2.2||decide ((lI a).1<(lI b).1))then((lI b).1,(lI b).2.1,true,false)else((lI a).1,(lI a).2.1,(lI a).2.2,(lI a).2.2)
def kept(keep:Int)(n:Nat):Nat:=(max 0 (min keep (n:Int))).toNat
noncomputable def iq (a b:Bytes) (x:eY):Bytes:=slot ((latest a b).1+1) x
noncomputable def Iu (a b:Bytes) (x:eY) (keep:Int):(Bytes×Bytes×Unit)×Bool×Unit:=
 bif iq a b x==[]then((a,b,()),false,())else
 bif (latest a b).2.2.2 then((a,(iq a b x).take (kept keep (iq a b x).length),()),(iq a b x).take (kept keep (iq a b x).length)==iq a b x,())else
 (((iq a b x).take (kept keep (iq a b x).length),b,()),(iq a b x).take (kept keep (iq a b x).length)==iq a b x,())
end Sp
namespace Sp
open Go
def FI(x:gJ):Int:=x.2.2.2.2.2.1
def RX(x:gJ)(p:Int):gJ:=(x.1,x.2.1,x.2.2.1,x.2.2.2.1,x.2.2.2.2.1,p,())
def VF(v:List gJ)(n more:Int):Bool:=
 decide (0<=qp v n)&&(decide (0<=FI (ni v (qp v n).toNat)+more)&&decide (FI (ni v (qp v n).toNat)+more<=99))
noncomputable def FK (v:List gJ) (n more:Int):List gJ×Bool:=
 bif KL v&&VF v n more then(v.set (qp v n).toNat (RX (ni v (qp v n).toNat) (FI (ni v (qp v n).toNat)+more)),true)else(v,false)
def unpinned(x:gJ):Bool:=FI x==0
def RY(v:List gJ)(n:Nat):List gJ:=(v.take n).filter (λx=>!unpinned x)
noncomputable def collect (v:List gJ):List gJ:=bif KL v then RY v (v.length-1)++v.drop (v.length-1)else v
end Sp
namespace Sp
open Go
abbrev bT:=Int×List (Int×Unit)×List (Int×Unit)×Unit
abbrev iw:=Int×Bytes×List (Int×Unit)×List bT×Unit
abbrev dR:=List dD×List aK×Int×List aJ×List ig×Bytes×Bytes×Int×List gJ×List iw×List (Int×Unit)×Unit
def um(x:dR):fA:=(x.1,x.2.1,x.2.2.1,x.2.2.2.1,x.2.2.2.2.1,())
def Je(x:dR):eY:=(x.1,x.2.1,x.2.2.1,x.2.2.2.1,())
def Aw(c:fA):eY:=(c.1,c.2.1,c.2.2.1,c.2.2.2.1,())
def jJ(x:dR):Bytes:=x.2.2.2.2.2.1
def jK(x:dR):Bytes:=x.2.2.2.2.2.2.1
def uo(x:dR):Int:=x.2.2.2.2.2.2.2.1
def kR(x:dR):List gJ:=x.2.2.2.2.2.2.2.2.1
def zV(x:dR):List iw:=x.2.2.2.2.2.2.2.2.2.1
def xU(x:dR):List (Int×Unit):=x.2.2.2.2.2.2.2.2.2.2.1
def mkS(c:fA)(a b:Bytes)(n:Int)(vs:List gJ)(ws:List iw)(q:List (Int×Unit)):dR:=
 (c.1,c.2.1,c.2.2.1,c.2.2.2.1,c.2.2.2.2.1,a,b,n,vs,ws,q,())
def Wi(l:List (Int×Unit))(e:bT):List (Int×Unit):=Ry l e.2.1 e.2.2.1
def replay(l:List (Int×Unit))(es:List bT):List (Int×Unit):=es.foldl Wi l
def listing(w:iw):List (Int×Unit):=replay w.2.2.1 w.2.2.2.1
noncomputable def Us (s:cZ) (d:List aJ) (u:Int):List ig×Bool:=bif sJ s&&(rZ d&&Fv u)then(FD (visible s u).2.1 d,true)else([],false)
noncomputable def Az (s:cZ) (d:List aJ) (u:Int) (name:Bytes):List (Int×Unit):=qV (Us s d u).1 name
def told(w:iw)(n:Int)(l:List (Int×Unit)):iw:=
 bif decide (0<(without l (listing w)).length+(without (listing w) l).length)then(w.1,w.2.1,w.2.2.1,w.2.2.2.1++[(n,without l (listing w),without (listing w) l,())],())else w
def rise(l:List (Int×Unit)):Bool:=lH (l.length-1) λi=>decide ((l.getD i (0,())).1<(l.getD (i+1) (0,())).1)
def xW(es:List bT)(i:Nat):bT:=es.getD i (0,[],[],())
def VG(l:List (Int×Unit))(es:List bT)(i:Nat):Bool:=
 !decide ((xW es i).2.1.length+(xW es i).2.2.1.length=0)&&(rise (xW es i).2.1&&(rise (xW es i).2.2.1&&(!(decide (0<i)&&decide ((xW es (i-1)).1>=(xW es i).1))&&
   (((xW es i).2.1.all λx=>!uV (replay l (es.take i)) x.1)&&(xW es i).2.2.1.all λx=>uV (replay l (es.take i)) x.1))))
def Ut(w:iw):Bool:=(Fv w.1&&rise w.2.2.1)&&lH w.2.2.2.1.length (VG w.2.2.1 w.2.2.2.1)
def Tv(w:iw):Int:=bif decide (w.2.2.2.1.length=0)then 0 else(xW w.2.2.2.1 (w.2.2.2.1.length-1)).1
noncomputable def AA (a b:eY):Bool:=decide (enc a=enc b)
def Uu(q:List (Int×Unit)):Bool:=decide (q.length=3)&&q.all λx=>decide (0<=x.1)&&decide (x.1<=999)
noncomputable def Qu (s:cZ) (d:List aJ) (n:Int) (w:iw):Bool:=decide (Tv w<=n)&&(Ut w&&decide (listing w=Az s d w.1 w.2.1))
noncomputable def OX (x:dR):Bool:=
 xQ (um x)&&((latest (jJ x) (jK x)).2.2.1&&(decide ((latest (jJ x) (jK x)).1=uo x)&&(AA (latest (jJ x) (jK x)).2.1 (Je x)&&
  (KL (kR x)&&(decide (kR x≠[])&&(decide ((zV x).length<=4)&&(Uu (xU x)&&
    ((decide ((ni (kR x) ((kR x).length-1)).1=uo x)&&AA (MR (ni (kR x) ((kR x).length-1))) (Je x))&&
      (zV x).all (Qu (fO (um x)) (iW (um x)) (uo x))))))))))
def Tz(n:Int)(s:eY):gJ:=(n,s.1,s.2.1,s.2.2.1,s.2.2.2.1,0,())
noncomputable def toldAll (s:cZ) (d:List aJ) (n:Int) (ws:List iw):List iw:=ws.map λw=>told w n (Az s d w.1 w.2.1)
noncomputable def TA (vs:List gJ):List gJ:=bif decide (6<=vs.length)then collect vs else vs
noncomputable def KZ (a b:Bytes) (s:eY):Bytes×Bytes×Unit:=(Iu a b s 1000000).1
noncomputable def commit (x:dR) (c:fA):dR×Bool:=
 bif !(OX x&&xQ c)then(x,false)else
 bif AA (Aw c) (Je x)then(x,true)else
 bif decide (1000000000<=uo x)||decide (6<=(TA (kR x)).length)then(x,false)else
 (mkS c (KZ (jJ x) (jK x) (Aw c)).1 (KZ (jJ x) (jK x) (Aw c)).2.1 (uo x+1) (TA (kR x)++[Tz (uo x+1) (Aw c)]) (toldAll (fO c) (iW c) (uo x+1) (zV x)) (xU x),true)
noncomputable def Wj (s:eY):fA:=(s.1,s.2.1,s.2.2.1,s.2.2.2.1,FD s.2.1 s.2.2.2.1,())
noncomputable def RZ (s:cZ) (d:List aJ) (n:Int) (w:iw):iw:=bif decide (Tv w<n)then told w n (Az s d w.1 w.2.1)else w
noncomputable def recover (x:dR):dR×Bool:=
 bif (latest (jJ x) (jK x)).2.2.1 then
  (mkS (Wj (latest (jJ x) (jK x)).2.1) (jJ x) (jK x) (latest (jJ x) (jK x)).1 [Tz (latest (jJ x) (jK x)).1 (latest (jJ x) (jK x)).2.1]
    ((zV x).map (RZ (Il (latest (jJ x) (jK x)).2.1) (latest (jJ x) (jK x)).2.1.2.2.2.1 (latest (jJ x) (jK x)).1)) (xU x),true)
 else(x,false)
def Si(x:dR)(d:Bytes×Bytes×Unit):dR:=mkS (um x) d.1 d.2.1 (uo x) (kR x) (zV x) (xU x)
def DC(x:dR)(v:List gJ):dR:=mkS (um x) (jJ x) (jK x) (uo x) v (zV x) (xU x)
def Sj(x:dR)(w:List iw):dR:=mkS (um x) (jJ x) (jK x) (uo x) (kR x) w (xU x)
def Wl(x:dR)(u:Int)(ops:List dw)(y:dR)(ok:Bool):Prop:=
 ∃c df o,Fz (um x) u ops (xU x) c df o/\(y,ok)=bif o then commit x c else(x,false)
def crashed(x:dR)(u:Int)(ops:List dw)(keep:Int)(y:dR)(ok:Bool):Prop:=
 bif OX x then∃c df o,Fz (um x) u ops (xU x) c df o/\(y,ok)=recover (bif o&&!AA (Aw c) (Je x)then Si x (Iu (jJ x) (jK x) (Aw c) keep).1 else x)else y=x/\ok=false
def Sl(x:dR)(u:Int)(name:Bytes)(id:Int)(b:Bool)(y:dR)(ok:Bool):Prop:=
 ∃c set o,written (um x) u name id b c set o/\(y,ok)=bif o&&MZ c.2.1 (xU x)then commit x c else(x,false)
abbrev Sm:=Int×Int×List dw×Bytes×Int×Unit
def Wn(a:Sm):Bool:=(decide (1<=a.1)&&decide (a.1<=8))&&decide (a.2.2.1.length<=6)
noncomputable def watched (x:dR) (u:Int) (name:Bytes):dR×Bool:=
 bif decide (4<=(zV x).length)||!Fv u then(x,false)else(Sj x (zV x++[(u,name,Az (fO (um x)) (iW (um x)) u name,[],())]),true)
def Wp(x:dR)(a:Sm)(y:dR)(ok:Bool):Prop:=
 bif !(Wn a&&OX x)then y=x/\ok=false else
 bif a.1==1 then Wl x a.2.1 a.2.2.1 y ok else
 bif a.1==2 then crashed x a.2.1 a.2.2.1 a.2.2.2.2.1 y ok else
 bif a.1==3 then(y,ok)=watched x a.2.1 a.2.2.2.1 else
 bif a.1==4 then y=DC x (FK (kR x) a.2.2.2.2.1 1).1/\ok=(FK (kR x) a.2.2.2.2.1 1).2 else
 bif a.1==5 then y=DC x (FK (kR x) a.2.2.2.2.1 (-1)).1/\ok=(FK (kR x) a.2.2.2.2.1 (-1)).2 else
 bif a.1==6 then y=DC x (collect (kR x))/\ok=true else
 Sl x a.2.1 a.2.2.2.1 a.2.2.2.2.1 (a.1==7) y ok
def runs:dR->List Sm->dR->List (Bool×Unit)->List (Int×Unit)->Prop
 |x,[],y,t,l=>y=x/\t=[]/\l=[]
 |x,a::r,y,t,l=>∃x1 ok t' l',Wp x a x1 ok/\runs x1 r y t' l'/\t=(ok,())::t'/\l=(uo x1,())::l'
end Sp
namespace Sp
open Go
end Sp
namespace Sp
open Go
end Sp
namespace Sp
open Go
def qZ:bT->Nat|(_,a,b,_)=>a.length+b.length
def oq(a:List bT):Nat:=mY qZ a
def oL:iw->Nat|(_,n,l,e,_)=>n.length+(l.length+oq e)
end Sp
namespace Sp
open Go
def markT(k:Int):Bytes:=109::Lib.itoa k
end Sp
namespace Sp
open Go
def zL:iw->Bytes|(u,n,l,_,_)=>withIds ([119,97,116,99,104,32]++Lib.itoa u++[32]++n) l
def KC(e:bT):Bytes:=qH e.1 e.2.1 e.2.2.1
def ku(w:iw):List (Bytes×Unit):=(zL w,())::w.2.2.2.1.map λe=>(KC e,())
def rD:List (Bytes×Unit)->Int->Int
 |[],k=>k
 |s::r,k=>if s.1=markT k then rD r (k+1)else -1
end Sp
namespace Go.Fw
open Go
end Go.Fw
namespace Go.Fw
open Go
end Go.Fw
