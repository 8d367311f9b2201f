import Derived.Test.YtncbcelpbmlgdaaGreatDoorFwB
namespace Go.Fw
open Go
variable {P:Program} {w0:World} {M:Nat->Prop} {T:Ext} {γ γ':Nat->Value} {st:St} {a:Act} {w w':World} {Θ:jr} {Γ:kR}
structure dU where
 d:Nat
 v:AV
 u:List (Nat×aB)
 δ:List (Nat×aB)
 k:List Nat
def BZ(acc:List Nat):List Edge->Nat
 |[]=>0
 |e::r=>match Region.binds .any e with
  |true=>(2 ^ e.on|||acc.getD e.on 0)|||BZ acc r
  |false=>BZ acc r
def masks:List Oper->List Nat->List Nat
 |[],acc=>acc
 |o::r,acc=>masks r (acc++[BZ acc o.after.toList])
def pick:List dU->Nat->(Nat->Bool)->List dU
 |[],_,_=>[]
 |x::r,j,m=>match m j with|true=>x::pick r (j+1) m|false=>pick r (j+1) m
def yg:List dU->Nat->AV->AV
 |[],_,b=>b
 |x::r,t,b=>match Nat.beq t x.d with|true=>x.v|false=>yg r t b
def lookO:List dU->Nat->Option aB->Option aB
 |[],_,b=>b
 |x::r,o,b=>match look x.δ o with|some y=>some y|none=>lookO r o b
def nK:List dU->Nat->Option aB
 |[],_=>none
 |x::r,o=>match nK r o with|some y=>some y|none=>look x.u o
def lH(base:St)(l:List dU):St:=
 {n:=base.n,tmps:=λt=>yg l t (base.tmps t),ah:=λo=>match nK l o with|some y=>some y|none=>lookO l o (base.ah o)}
def ny:List dU->List Nat
 |[]=>[]
 |x::r=>x.k++ny r
def sH(l:List Nat)(st:St):St:=match l with|[]=>st|l=>st.kill (aO l)
def after(base:St)(path:List dU)(m:Nat->Bool):St:=sH (ny (pick path 0 m)) (lH base (pick path 0 m))
def Cell.touch(S:Nat->Bool):Cell->Bool
 |.ref o=>S o
 |_=>false
def SV.touch(S:Nat->Bool):SV->Bool
 |.one c=>c.touch S
 |.agg cs=>cs.any (Cell.touch S)
def AV.touch(S:Nat->Bool):AV->Bool
 |.undef=>false
 |.sv v=>v.touch S
 |.mJ vs=>vs.any (SV.touch S)
 |.bM o _=>S o
 |.nT o _ _=>S o
 |.win o _ _=>S o
 |.qg _ _ _ _=>false
 |.fF cs _=>cs.any (Cell.touch S)
 |.fn _ caps=>caps.any λcs=>cs.any (Cell.touch S)
def aB.touch(S:Nat->Bool):aB->Bool
 |.var cs=>cs.any (Cell.touch S)
 |.arr _ _ _ _=>false
def St.abT(st:St)(L:List Nat):St:=match L with
 |[]=>st
 |L=>{n:=st.n,tmps:=λt=>match (st.tmps t).touch (aO L)with|true=>.undef|false=>st.tmps t,
      ah:=λo=>match aO L o with|true=>none|false=>match st.ah o with|some x=>(match x.touch (aO L)with|true=>none|false=>some x)|none=>none}
def ad9(ms:List Nat)(i:Nat):List (Nat×Nat)->List Nat
 |[]=>[]
 |(e,q)::r=>match Nat.beq e i||((ms.getD i 0).testBit e||(ms.getD e 0).testBit i)with|true=>ad9 ms i r|false=>q::ad9 ms i r
def H7:List (Nat×Nat)->Nat->Nat->Bool
 |[],_,_=>false
 |(e,q)::r,i,o=>match Nat.beq e i&&Nat.beq q o with|true=>true|false=>H7 r i o
def XW:Op->Bool
 |.call {callee:=.builtin .append,.. }=>true
 |_=>false
def yU:Op->Bool
 |.store _ _ _=>true
 |_=>false
def rW(n i:Nat)(o:Oper):Option Nat:=match o.dst with
 |some d=>some d
 |none=>match yU o.op with|true=>some (n+i)|false=>none
def dstsOf(n:Nat):Nat->List Oper->List Nat
 |_,[]=>[]
 |i,o::r=>match rW n i o with|some d=>d::dstsOf n (i+1) r|none=>dstsOf n (i+1) r
def nodup:List Nat->Bool
 |[]=>true
 |x::r=>!(aO r x)&&nodup r
def bQ(D:List Nat)(st:St):St:=st.kill λo=>aO D (o / 64)
def CY(d:Nat)(δ:List (Nat×aB)):Bool:=δ.all λx=>Nat.beq (x.1 / 64) d
def St.hide(st:St)(U:List Nat):St:={st with ah:=λo=>match aO U o with|true=>none|false=>st.ah o}
def yh(Γ:kR)(o:Op):Bool:=match o with
 |.call {callee:=.value (.func f),.. }=>match Γ f with|some (.eff _ _)=>true|_=>false
 |.store _ _ _=>true
 |_=>false
def PU(Γ:kR):Nat->List Oper->List Nat
 |_,[]=>[]
 |i,o::r=>match yh Γ o.op with|true=>i::PU Γ (i+1) r|false=>PU Γ (i+1) r
def D7(ms:List Nat)(E:List Nat)(i:Nat):Bool:=E.all λe=>Nat.beq e i||((ms.getD i 0).testBit e||(ms.getD e 0).testBit i)
def rH(st:St)(m:Mode)(x:AV):Option (Arg×Option Nat):=
 match m with
 |.val=>match oZ st [x]with
  |some [a]=>some (a,none)
  |_=>none
 |m=>pK st m x
def wV(st:St):List Mode->List AV->Option (List Arg×List (Option Nat))
 |_,[]=>some ([],[])
 |ms,x::xs=>match rH st (ms.headD .val) x,wV st ms.tail xs with
  |some (a,o),some (as,os)=>some (a::as,o::os)
  |_,_=>none
def Arg.aqM:Arg->Bool
 |.own _ _ _=>false
 |_=>true
def PV(Γ:kR)(st:St):Op->Option (Prop×Jr×(List (Option Nat)×Bool))
 |.call {callee:=.value (.func f),args,.. }=>match Γ f with
  |some (.eff ms con)=>match wV st ms (handed st args.toList [])with
   |some (vs,os)=>match FU (DW ms (handed st args.toList []))||vs.all Arg.aqM with
    |true=>match con vs with
     |some (p,ρ)=>some (p,ρ,(os,!(FU (DW ms (handed st args.toList [])))))
     |none=>none
    |false=>none
   |none=>none
  |_=>none
 |_=>none
def Ls(Θ:jr)(st:St):Op->Option (List (Nat×aB))
 |.store t p x=>match st.ev x,Θ t,st.ev p with
  |.sv v,some ti,.bM o off=>match Nat.beq v.cells.length ti.cells.len,st.ah o with
   |true,some (.var cs)=>match Nat.ble (off+v.cells.length) cs.length with
    |true=>some [(o,.var (splice cs off v.cells))]
    |false=>none
   |_,_=>none
  |_,_,_=>none
 |_=>none
def alz(D U:List Nat)(υ:List (Nat×aB)):Bool:=υ.all λy=>aO U y.1&&!(aO D (y.1 / 64))
def PW:List (Option Nat)->List Eff->Bool
 |[],_=>true
 |none::os,aH=>PW os aH.tail
 |some _::os,aH=>match aH.head? with|some (.var _)=>PW os aH.tail|_=>false
def Gg(D U:List Nat)(d:Nat)(st:St)(os:List (Option Nat)×Bool)(out:Out)(aH:List Eff):Option (AV×List (Nat×aB)×List (Nat×aB)):=
 match yQ os.1&&(IV aH (out.take (d*64+1)).2&&(PW os.1 aH&&(CY d (out.take (d*64+1)).2&&(!os.2||(out.made&&Le aH))))),nJ st os.1 aH with
 |true,some υ=>match υ.all λy=>aO U y.1&&!(aO D (y.1 / 64))with
  |true=>some ((out.take (d*64+1)).1,υ,(out.take (d*64+1)).2)
  |false=>none
 |_,_=>none
structure Reg where
 D:List Nat
 U:List Nat
 ms:List Nat
 E:List Nat
 A:List (Nat×Nat)
 n:Nat
 F:List Nat
def oH(F:List Nat)(x:dU):dU:=match aO F x.d,x.v,x.u,x.δ with
 |true,.sv (.one (.ref q)),[],[(q',.arr e r l fr)]=>match Nat.beq q q' with
  |true=>⟨x.d,.sv (.one (.sl e r l fr)),[],[],x.k⟩
  |false=>x
 |_,_,_,_=>x
theorem pW(F:List Nat)(x:dU):(oH F x).d=x.d/\(oH F x).u=x.u/\(oH F x).k=x.k/\∀y∈(oH F x).δ,y∈x.δ:=by
 unfold oH;split
 .next q q' e r l fr _ hv hu hδ=>
  split
  .exact⟨rfl,hu.symm,rfl,λy hy=>asK⟩
  .exact⟨rfl,rfl,rfl,λy hy=>hy⟩
 .exact⟨rfl,rfl,rfl,λy hy=>hy⟩
def idxOf:List Nat->Nat->Nat->Option Nat
 |[],_,_=>none
 |x::r,t,j=>match Nat.beq t x with|true=>some j|false=>idxOf r t (j+1)
def aad(R:Reg)(i t:Nat):Bool:=match idxOf R.D t 0 with
 |some j=>!(Nat.beq j i||((R.ms.getD i 0).testBit j||(R.ms.getD j 0).testBit i))
 |none=>false
def St.veil(st:St)(R:Reg)(i:Nat):St:={st with tmps:=λt=>match aad R i t with|true=>.undef|false=>st.tmps t}
def viewAt(R:Reg)(base:St)(acc:List dU)(i:Nat):St:=
 ((match D7 R.ms R.E i with
 |true=>after base acc (R.ms.getD i 0).testBit
 |false=>(after base acc (R.ms.getD i 0).testBit).hide R.U).veil R i).abT (ad9 R.ms i R.A)
def KE(Θ:jr)(Γ:kR)(R:Reg)(base:St)(i:Nat)(o:Oper)(d:Nat)(acc:List dU)(K:List dU->Prop):Prop:=
 match yh Γ o.op with
 |true=>match yU o.op with
  |true=>match Ls Θ (viewAt R base acc i) o.op with
   |some υ=>match alz R.D R.U υ with
    |true=>K (acc++[⟨d,.mJ [],υ,[],[]⟩])
    |false=>False
   |none=>False
  |false=>match PV Γ (viewAt R base acc i) o.op with
   |some (p,ρ,os)=>p/\∀t,ρ.R t->match Gg R.D R.U d (viewAt R base acc i) os (ρ.out t) (ρ.aH t)with
    |some (v,υ,δ)=>K (acc++[⟨d,v,υ,δ,[]⟩])
    |none=>False
   |none=>False
 |false=>match XW o.op with
  |true=>match DY Θ (viewAt R base acc i) o.op with
   |some (p,q,x)=>match aO R.D (q / 64)&&(!(Nat.beq (q / 64) d)&&H7 R.A i q)with
    |true=>p/\K (acc++[oH R.F ⟨d,.sv (.one (.ref (d*64+1))),[],[(d*64+1,x)],[q]⟩])
    |false=>False
   |none=>False
  |false=>match calm Θ Γ d (viewAt R base acc i) o.op with
   |some (p,v,δ)=>match CY d δ,quiet (viewAt R base acc i) o.op with
    |true,true=>K (acc++[oH R.F ⟨d,v,[],δ,[]⟩])
    |true,false=>p/\K (acc++[oH R.F ⟨d,v,[],δ,[]⟩])
    |false,_=>False
   |none=>False
def fix(g:Nat)(b:Bool)(acc:List dU):List dU:=
 match acc[g]? with
 |some x=>acc.set g {x with v:=.sv (.one (.bool b))}
 |none=>acc
def skipped(d:Nat):dU:=⟨d,.mJ [],[],[],[]⟩
def tY(Θ:jr)(Γ:kR)(R:Reg)(base:St)(K:List dU->Prop):Nat->List Oper->List dU->Prop
 |_,[],acc=>K acc
 |i,o::r,acc=>match rW R.n i o,Nat.blt (R.ms.getD i 0) (2 ^ i)with
  |some d,true=>match o.guard with
   |none=>KE Θ Γ R base i o d acc (tY Θ Γ R base K (i+1) r)
   |some (g,b)=>match (R.ms.getD i 0).testBit g,acc[g]? with
    |true,some x=>match x.v with
     |.sv (.one (.bool c))=>cond c
      (match b with
        |true=>KE Θ Γ R base i o d (fix g true acc) (tY Θ Γ R base K (i+1) r)
        |false=>tY Θ Γ R base K (i+1) r (fix g true acc++[skipped d]))
      (match b with
        |false=>KE Θ Γ R base i o d (fix g false acc) (tY Θ Γ R base K (i+1) r)
        |true=>tY Θ Γ R base K (i+1) r (fix g false acc++[skipped d]))
     |.mJ _=>tY Θ Γ R base K (i+1) r (acc++[skipped d])
     |_=>False
    |_,_=>False
  |_,_=>False
def Wanted(R:Reg)(path:List dU)(i:Nat)(o:Oper):Prop:=
 o.guard=none\/∃g b y,o.guard=some (g,b)/\(R.ms.getD i 0).testBit g=true/\path[g]? =some y/\y.v=.sv (.one (.bool b))
def aae(R:Reg)(path:List dU)(i:Nat)(o:Oper):Prop:=
 ∃g b y,o.guard=some (g,b)/\(R.ms.getD i 0).testBit g=true/\path[g]? =some y/\((∃c,y.v=.sv (.one (.bool c))/\c≠b)\/∃vs,y.v=.mJ vs)
def rF(Θ:jr)(Γ:kR)(R:Reg)(base:St)(path:List dU)(i:Nat)(o:Oper)(x:dU):Prop:=
 rW R.n i o=some x.d/\(R.ms.getD i 0)<2 ^ i/\
 ((Wanted R path i o/\
    ((yh Γ o.op=false/\XW o.op=false/\∃p v δ,calm Θ Γ x.d (viewAt R base path i) o.op=some (p,v,δ)/\p/\CY x.d δ=true/\x=oH R.F ⟨x.d,v,[],δ,[]⟩)\/
     (yh Γ o.op=false/\XW o.op=true/\∃p q y,DY Θ (viewAt R base path i) o.op=some (p,q,y)/\p/\(aO R.D (q / 64)=true/\q / 64≠x.d/\H7 R.A i q=true)/\
       x=oH R.F ⟨x.d,.sv (.one (.ref (x.d*64+1))),[],[(x.d*64+1,y)],[q]⟩)\/
     (yh Γ o.op=true/\yU o.op=true/\∃υ,Ls Θ (viewAt R base path i) o.op=some υ/\alz R.D R.U υ=true/\x=⟨x.d,.mJ [],υ,[],[]⟩)\/
     ((yh Γ o.op=true/\yU o.op=false)/\x.k=[]/\∃p ρ os t,PV Γ (viewAt R base path i) o.op=some (p,ρ,os)/\p/\ρ.R t/\
        (∀t,ρ.R t->∃r,Gg R.D R.U x.d (viewAt R base path i) os (ρ.out t) (ρ.aH t)=some r)/\
        Gg R.D R.U x.d (viewAt R base path i) os (ρ.out t) (ρ.aH t)=some (x.v,x.u,x.δ))))\/
  (aae R path i o/\x=skipped x.d))
def Enabled(Θ:jr)(Γ:kR)(R:Reg)(base:St)(path:List dU)(i:Nat)(o:Oper):Prop:=
 ∃d,rW R.n i o=some d/\(R.ms.getD i 0)<2 ^ i/\
 ((Wanted R path i o/\
    ((yh Γ o.op=false/\XW o.op=false/\∃p v δ,calm Θ Γ d (viewAt R base path i) o.op=some (p,v,δ)/\p/\CY d δ=true)\/
     (yh Γ o.op=false/\XW o.op=true/\∃p q y,DY Θ (viewAt R base path i) o.op=some (p,q,y)/\p/\(aO R.D (q / 64)=true/\q / 64≠d/\H7 R.A i q=true))\/
     (yh Γ o.op=true/\yU o.op=true/\∃υ,Ls Θ (viewAt R base path i) o.op=some υ/\alz R.D R.U υ=true)\/
     ((yh Γ o.op=true/\yU o.op=false)/\∃p ρ os,PV Γ (viewAt R base path i) o.op=some (p,ρ,os)/\p/\
        ∀t,ρ.R t->∃r,Gg R.D R.U d (viewAt R base path i) os (ρ.out t) (ρ.aH t)=some r)))\/
  aae R path i o)
theorem ah0{g:Nat}{b:Bool}{acc:List dU}{x:dU}(h:acc[g]? =some x)(hv:x.v=.sv (.one (.bool b))):fix g b acc=acc:=by
 unfold fix;rw[h];obtain⟨hlt,hx⟩:=avG.1 h;refine axi λi=>?_;by_cases hi:i=g
 .subst hi;rw[awM hlt,h];cases x;simp at hv;simp[hv]
 .rw[awq (axl hi)]
theorem afB:∀(l:List dU)(j:Nat)(m:Nat->Bool),(∀i,j<=i->m i=false)->pick l j m=[]
 |[],_,_,_=>rfl
 |x::r,j,m,h=>by rw[pick,h j (avt _)];exact afB r (j+1) m λi hi=>h i abn
theorem OC(r:List dU)(m:Nat->Bool):∀(l:List dU)(j:Nat),pick (l++r) j m=pick l j m++pick r (j+l.length) m
 |[],j=>by simp[pick]
 |x::l,j=>by rw[awD,pick,pick,OC r m l (j+1),avq,show j+1+l.length=j+(l.length+1)from abn];cases m j<;>rfl
theorem J3{m:Nat->Bool}:∀(l l':List dU)(j:Nat),(∀i,m (j+i)=true->l[i]? =l'[i]?)->pick l j m=pick l' j m
 |[],[],_,_=>rfl
 |[],y::r,j,h=>by
  cases hm:m j with
  |true=>have:=h 0 asI;simp at this
  |false=>
   rw[pick,pick,hm];exact J3 [] r (j+1) λi hi=>by have:=h (i+1) (by rw[show j+(i+1)=j+1+i from abn];exact hi);simpa using this
 |x::l,[],j,h=>by
  cases hm:m j with
  |true=>have:=h 0 asI;simp at this
  |false=>
   rw[pick,pick,hm];exact J3 l [] (j+1) λi hi=>by have:=h (i+1) (by rw[show j+(i+1)=j+1+i from abn];exact hi);simpa using this
 |x::l,y::r,j,h=>by
  have ih:=J3 l r (j+1) λi hi=>by have:=h (i+1) (by rw[show j+(i+1)=j+1+i from abn];exact hi);simpa using this
  rw[pick,pick];cases hm:m j with
  |true=>have:=h 0 asI;simp at this;rw[this,ih]
  |false=>exact ih
theorem kT{m:Nat->Bool}{x:dU}:∀(l:List dU)(j:Nat),x∈pick l j m↔∃i,m (j+i)=true/\l[i]? =some x
 |[],j=>by simp[pick]
 |y::l,j=>by
  have ih:=kT (m:=m) (x:=x) l (j+1);have e:∀i,j+1+i=j+(i+1):=λi=>abn;rw[pick];cases hm:m j with
  |true=>
   simp only[avF,ih];constructor
   .rintro(rfl|⟨i,h1,h2⟩)
    .exact⟨0,asI,rfl⟩
    .exact⟨i+1,by rw[← e];exact h1,aiP⟩
   .rintro⟨i,h1,h2⟩;cases i with
    |zero=>simp at h2;exact .inl h2.symm
    |succ i=>exact .inr ⟨i,by rw[e];exact h1,aiP⟩
  |false=>
   simp only[ih];constructor
   .rintro⟨i,h1,h2⟩;exact⟨i+1,by rw[← e];exact h1,aiP⟩
   .rintro⟨i,h1,h2⟩;cases i with
    |zero=>rw[aw0,hm]at h1;cases h1
    |succ i=>exact⟨i,by rw[e];exact h1,aiP⟩
theorem oJ{m i j:Nat}(h:m<2 ^ i)(hj:i<=j):m.testBit j=false:=
 Nat.testBit_lt_two_pow (avT h (Nat.pow_le_pow_right abA hj))
theorem Lu{R:Reg}{base:St}{l l':List dU}{i:Nat}(h:∀j,(R.ms.getD i 0).testBit j=true->l[j]? =l'[j]?):viewAt R base l i=viewAt R base l' i:=by unfold viewAt after;rw[J3 l l' 0 λj hj=>h j ana]
theorem rF.agree{R:Reg}{base:St}{l l':List dU}{i:Nat}{o:Oper}{x:dU}(h:∀j,(R.ms.getD i 0).testBit j=true->l[j]? =l'[j]?)(hr:rF Θ Γ R base l i o x):rF Θ Γ R base l' i o x:=by
 obtain⟨h1,h2,h3⟩:=hr;refine⟨h1,h2,?_⟩;rw[← Lu h];refine h3.imp (And.imp (Or.imp id ?_) id) (And.imp ?_ id)
 .rintro⟨g,b,y,e1,e2,e3,e4⟩;exact⟨g,b,y,e1,e2,h g e2▸e3,e4⟩
 .rintro⟨g,b,y,e1,e2,e3,e4⟩;exact⟨g,b,y,e1,e2,h g e2▸e3,e4⟩
theorem Enabled.agree{R:Reg}{base:St}{l l':List dU}{i:Nat}{o:Oper}(h:∀j,(R.ms.getD i 0).testBit j=true->l[j]? =l'[j]?)(hr:Enabled Θ Γ R base l i o):Enabled Θ Γ R base l' i o:=by
 obtain⟨d,h1,h2,h3⟩:=hr;refine⟨d,h1,h2,?_⟩;rw[← Lu h];refine h3.imp (And.imp (Or.imp id ?_) id) ?_
 .rintro⟨g,b,y,e1,e2,e3,e4⟩;exact⟨g,b,y,e1,e2,h g e2▸e3,e4⟩
 .rintro⟨g,b,y,e1,e2,e3,e4⟩;exact⟨g,b,y,e1,e2,h g e2▸e3,e4⟩
theorem sJ{l:List Nat}{x:Nat}:aO l x=true↔x∈l:=by
 induction l with
 |nil=>simp[aO]
 |cons y l ih=>
  rw[aO,avF];cases hb:Nat.beq x y with
  |true=>simp[avs hb]
  |false=>
   simp only[ih];constructor
   .exact .inr
   .rintro(rfl|h)
    .simp at hb
    .exact h
theorem abU{n:Nat}{o:Oper}{d:Nat}:∀(l:List Oper)(i j:Nat),l[j]? =some o->rW n (i+j) o=some d->d∈dstsOf n i l
 |[],_,_,ho,_=>by simp at ho
 |x::r,i,0,ho,hd=>by
  simp at ho;subst ho;rw[aw0]at hd;rw[dstsOf,hd];exact avA
 |x::r,i,j+1,ho,hd=>by
  have:=abU r (i+1) j aq7 (by rw[show i+1+j=i+(j+1)from abn];exact hd);rw[dstsOf];split
  .exact avy _ this
  .exact this
def aaf(Θ:jr)(Γ:kR)(R:Reg)(base:St)(ops:List Oper)(path:List dU):Prop:=
 ∀i o x,ops[i]? =some o->path[i]? =some x->rF Θ Γ R base path i o x
theorem zW{acc ext:List dU}{j:Nat}(h:j<acc.length):(acc++ext)[j]? =acc[j]? :=awe h
theorem Zc{R:Reg}{base:St}{K:List dU->Prop}:∀(rest pre:List Oper)(acc ext:List dU),acc.length=pre.length->ext.length<=rest.length->
 tY Θ Γ R base K pre.length rest acc->aaf Θ Γ R base (pre++rest) (acc++ext)->
 (ext.length=rest.length->K (acc++ext))/\∀o,rest[ext.length]? =some o->Enabled Θ Γ R base (acc++ext) (pre.length+ext.length) o
 |[],pre,acc,ext,hl,hle,hr,hc=>by
  have:ext=[]:=by cases ext with|nil=>rfl|cons _ _=>simp at hle
  subst this;rw[tY]at hr;exact⟨λ_=>by rw[avU];exact hr,λo ho=>by simp at ho⟩
 |o::rest,pre,acc,ext,hl,hle,hr,hc=>by
  rw[tY]at hr;split at hr
  case h_2=>exact hr.elim
  next d hd hm=>
  have hm':R.ms.getD pre.length 0<2 ^ pre.length:=by simpa[ax4]using hm
  have key:(Wanted R acc pre.length o/\KE Θ Γ R base pre.length o d acc (tY Θ Γ R base K (pre.length+1) rest))\/
   (aae R acc pre.length o/\tY Θ Γ R base K (pre.length+1) rest (acc++[skipped d])):=by
   split at hr
   .next hg=>exact .inl ⟨.inl hg,hr⟩
   .next g b hg=>
    split at hr
    .next x hbit hx=>
     split at hr
     .next c hc'=>
      cases c
      .simp only[axO,ah0 hx hc']at hr;cases b
       .exact .inl ⟨.inr ⟨g,false,x,hg,hbit,hx,hc'⟩,hr⟩
       .exact .inr ⟨⟨g,true,x,hg,hbit,hx,.inl ⟨false,hc',acA⟩⟩,hr⟩
      .simp only[ayt,ah0 hx hc']at hr;cases b
       .exact .inr ⟨⟨g,false,x,hg,hbit,hx,.inl ⟨true,hc',acA⟩⟩,hr⟩
       .exact .inl ⟨.inr ⟨g,true,x,hg,hbit,hx,hc'⟩,hr⟩
     .next vs hc'=>exact .inr ⟨⟨g,b,x,hg,hbit,hx,.inr ⟨vs,hc'⟩⟩,hr⟩
     .exact hr.elim
    .exact hr.elim
  have ah1:∀ext:List dU,∀j,(R.ms.getD pre.length 0).testBit j=true->acc[j]? =(acc++ext)[j]? :=by
   intro ext j hj;rcases avN j acc.length with h|h
   .rw[zW h]
   .rw[oJ hm' abn]at hj;cases hj
  cases ext with
  |nil=>
   refine⟨λh=>amA,λo' ho'=>?_⟩;have:o'=o:=by simpa using ho'.symm
   subst this;rw[avU];simp only[avu,aw0];refine⟨d,hd,hm',?_⟩;rcases key with⟨hw,hs⟩|⟨hw,_⟩
   .refine .inl ⟨hw,?_⟩;unfold KE at hs;split at hs
    .next he=>
     split at hs
     .next hst=>
      refine .inr (.inr (.inl ⟨he,hst,?_⟩));split at hs
      .next υ hυ=>
       split at hs
       .next hin=>exact⟨υ,hυ,hin⟩
       .exact hs.elim
      .exact hs.elim
     .next hst=>
      refine .inr (.inr (.inr ⟨⟨he,hst⟩,?_⟩));split at hs
      .next p ρ os hrel=>
       refine⟨p,ρ,os,hrel,hs.1,λt ht=>?_⟩;have:=hs.2 t ht;split at this
       .next v υ δ hres=>exact⟨_,hres⟩
       .exact this.elim
      .exact hs.elim
    .next he=>
     split at hs
     .next ha=>
      refine .inr (.inl ⟨he,ha,?_⟩);split at hs
      .next p q y happ=>
       split at hs
       .next hb=>rw[avo,avo]at hb;exact⟨p,q,y,happ,hs.1,hb.1,(λe=>by rw[e,awi]at hb;simp at hb),hb.2.2⟩
       .exact hs.elim
      .exact hs.elim
     .next ha=>
      refine .inl ⟨he,ha,?_⟩;split at hs
      .next p v δ hcalm=>
       split at hs
       .next hn hq=>exact⟨p,v,δ,hcalm,Rk hcalm hq,hn⟩
       .next hn hq=>exact⟨p,v,δ,hcalm,hs.1,hn⟩
       .exact hs.elim
      .exact hs.elim
   .exact .inr hw
  |cons x ext=>
   have hx:rF Θ Γ R base (acc++x::ext) pre.length o x:=by
    refine hc pre.length o x ?_ ?_
    .rw[av1 (avt _)];simp
    .rw[← hl,av1 (avt _)];simp
   obtain⟨e1,_,e3⟩:=hx;have hxd:x.d=d:=by rw[hd]at e1;exact(Option.some.inj e1).symm
   have arH:viewAt R base acc pre.length=viewAt R base (acc++x::ext) pre.length:=Lu (ah1 _);have hnext:tY Θ Γ R base K (pre.length+1) rest (acc++[x]):=by
    rcases key with⟨hw,hs⟩|⟨hw,hs⟩
    .rcases e3 with⟨_,e3⟩|⟨⟨g,b,y,f1,f2,f3,f4⟩,_⟩
     .rw[← arH,hxd]at e3;unfold KE at hs;rcases e3 with⟨he,ha,p,v,δ,hcalm,_,hn,hxx⟩|⟨he,ha,p,q,y,happ,_,_,hxx⟩|⟨he,hst,υ,hυ,hin,hxx⟩|⟨⟨he,hst⟩,hk,p,ρ,os,t,hrel,_,ht,_,hres⟩
      .rw[he,ha]at hs;simp only[hcalm]at hs;split at hs
       .rw[hxx];exact hs
       .rw[hxx];exact hs.2
       .exact hs.elim
      .rw[he,ha]at hs;simp only[happ]at hs;split at hs
       .rw[hxx];exact hs.2
       .exact hs.elim
      .rw[he,hst]at hs;simp only[hυ,hin]at hs;rw[hxx];exact hs
      .rw[he,hst]at hs;simp only[hrel]at hs;have h2:=hs.2 t ht;simp only[hres]at h2;have ex:x=⟨d,x.v,x.u,x.δ,[]⟩:=by cases x;simp at hxd hk;simp[hxd,hk]
       rw[ex];exact h2
     .exfalso;rw[← ah1 _ g f2]at f3;rcases hw with hw|⟨g',b',y',k1,k2,k3,k4⟩
      .rw[hw]at f1;cases f1
      .rw[f1]at k1;cases k1;rw[f3]at k3;cases k3;rcases f4 with⟨c,f4,hne⟩|⟨vs,f4⟩
       .rw[f4]at k4;cases k4;exact hne rfl
       .rw[f4]at k4;cases k4
    .rcases e3 with⟨hw',_⟩|⟨_,f1⟩
     .exfalso;obtain⟨g,b,y,k1,k2,k3,k4⟩:=hw;rcases hw' with hw'|⟨g',b',y',l1,l2,l3,l4⟩
      .rw[hw']at k1;cases k1
      .rw[k1]at l1;cases l1;rw[← ah1 _ g l2,k3]at l3;cases l3;rcases k4 with⟨c,k4,hne⟩|⟨vs,k4⟩
       .rw[k4]at l4;cases l4;exact hne rfl
       .rw[k4]at l4;cases l4
     .rw[hxd]at f1;rw[f1];exact hs
   have ih:=Zc rest (pre++[o]) (acc++[x]) ext asM (by simpa using hle) (by simpa using hnext) asH;simp only[avE,List.singleton_append,avn,avq,avu]at ih;refine⟨λh=>ih.1 acG,λo' ho'=>?_⟩;have:=ih.2 o' (by simpa using ho');rw[show pre.length+(0+1)+ext.length=pre.length+(ext.length+1)from abn]at this;simpa using this
theorem Ey(acc:List Nat)(j:Nat):∀(es:List Edge),(BZ acc es).testBit j=true↔∃e∈es,Region.binds .any e=true/\(e.on=j\/(acc.getD e.on 0).testBit j=true)
 |[]=>by simp[BZ]
 |e::r=>by
  rw[BZ];cases hb:Region.binds .any e with
  |false=>
   simp only[Ey acc j r,avF];constructor
   .rintro⟨e',h1,h2⟩;exact⟨e',.inr h1,h2⟩
   .rintro⟨e',rfl|h1,h2⟩
    .rw[hb]at h2;cases h2.1
    .exact⟨e',h1,h2⟩
  |true=>
   simp only[Nat.testBit_or,awC,Ey acc j r,avF,Nat.testBit_two_pow,avC];constructor
   .rintro((h|h)|⟨e',h1,h2⟩)
    .exact⟨e,.inl rfl,hb,.inl h⟩
    .exact⟨e,.inl rfl,hb,.inr h⟩
    .exact⟨e',.inr h1,h2⟩
   .rintro⟨e',rfl|h1,h2⟩
    .exact .inl h2.2
    .exact .inr ⟨e',h1,h2⟩
theorem Rt:∀(l:List Oper)(acc:List Nat)(i:Nat),i<acc.length->(masks l acc).getD i 0=acc.getD i 0
 |[],_,_,_=>rfl
 |o::r,acc,i,h=>by rw[masks,Rt r _ i adK];simp[avr,awe h]
theorem Ru:∀(l:List Oper)(acc:List Nat)(i:Nat)(o:Oper),l[i]? =some o->∃acc',(masks l acc).getD (acc.length+i) 0=BZ acc' o.after.toList/\
 (∀j,j<acc'.length->(masks l acc).getD j 0=acc'.getD j 0)
 |[],_,_,_,h=>amA
 |o::r,acc,0,o',h=>by
  simp at h;subst h;refine⟨acc,?_,λj hj=>?_⟩
  .rw[masks,Rt r _ _ acA];simp[avr]
  .rw[masks,Rt r _ _ adK];simp[avr,awe hj]
 |o::r,acc,i+1,o',h=>by
  obtain⟨acc',h1,h2⟩:=Ru r (acc++[BZ acc o.after.toList]) i o' acG;refine⟨acc',?_,?_⟩
  .rw[masks,← h1];simp only[avn,List.length_singleton];congr 1;omega
  .rw[masks];exact h2
theorem afC{ops:List Oper}{i:Nat}{o:Oper}(ho:ops[i]? =some o){e:Edge}(he:e∈o.after)(hb:Region.binds .any e=true):((masks ops []).getD i 0).testBit e.on=true:=by obtain⟨acc',h1,_⟩:=Ru ops [] i o ho;simp only[avu,avV]at h1;rw[h1,Ey];exact⟨e,by simpa using he,hb,.inl rfl⟩
theorem amR{ops:List Oper}{i:Nat}{o:Oper}(ho:ops[i]? =some o){j:Nat}(hj:((masks ops []).getD i 0).testBit j=true):
 ∃e∈o.after,Region.binds .any e=true/\(e.on=j\/((masks ops []).getD e.on 0).testBit j=true):=by
 obtain⟨acc',h1,h2⟩:=Ru ops [] i o ho;simp only[avu,avV]at h1;rw[h1,Ey]at hj;obtain⟨e,he,hb,hj⟩:=hj;refine⟨e,by simpa using he,hb,hj.imp id λh=>?_⟩;rcases avN e.on acc'.length with hlt|hge
 .rw[h2 _ hlt];exact h
 .rw[avr,aww hge]at h;simp at h
def Fa(L:Nat->Bool):Nat->Nat
 |0=>0
 |n+1=>(match L n with|true=>0|false=>1)+Fa L n
theorem afD{L L':Nat->Bool}:∀(n:Nat),(∀i,i<n->L i=L' i)->Fa L n=Fa L' n
 |0,_=>rfl
 |n+1,h=>by rw[Fa,Fa,h n abn,afD n λi hi=>h i abn]
theorem akt{L L':Nat->Bool}{i:Nat}(hi:L i=false)(hi':L' i=true)(h:∀j,j≠i->L' j=L j):∀(n:Nat),i<n->Fa L' n+1=Fa L n
 |0,hn=>abn
 |n+1,hn=>by
  rw[Fa,Fa];by_cases e:n=i
  .subst e;rw[hi,hi',afD (L:=L') (L':=L) n λj hj=>h j abn];simp only;omega
  .have:=akt hi hi' h n abn;rw[h n e];omega
theorem ah2{L:Nat->Bool}:∀(n:Nat),Fa L n=0->∀i,i<n->L i=true
 |0,_,i,hi=>abn
 |n+1,h,i,hi=>by
  rw[Fa]at h;cases hl:L n with
  |false=>simp only[hl]at h;omega
  |true=>
   by_cases e:i=n
   .rw[e];exact hl
   .exact ah2 n (by simp only[hl]at h;omega) i abn
theorem least{p:Nat->Prop}[DecidablePred p]:∀(n:Nat),(∃i,i<n/\p i)->∃i,i<n/\p i/\∀j,j<i->¬p j:=by
 intro n
 induction n using Nat.strongRecOn with
 |_ n ih=>
  rintro⟨i,hi,hp⟩;by_cases h:∃j,j<i/\p j
  .obtain⟨j,hj,h1,h2⟩:=ih i hi h;exact⟨j,abn,h1,h2⟩
  .exact⟨i,hi,hp,λj hj hpj=>h ⟨j,hj,hpj⟩⟩
structure Fits(D U:List Nat)(l:List dU):Prop where
 one:∀x∈l,∀y∈l,x.d=y.d->x=y
 mem:∀x∈l,aO D x.d=true
 new:∀x∈l,CY x.d x.δ=true
 upd:∀x∈l,∀o y,look x.u o=some y->aO U o=true/\aO D (o / 64)=false
theorem sK{d:Nat}{δ:List (Nat×aB)}(h:CY d δ=true){o:Nat}{y:aB}(hl:look δ o=some y):o / 64=d:=
 avs (avL.1 h _ (xH δ o y hl))
theorem Rw{t:Nat}{b:AV}:∀(l:List dU),(∀x∈l,x.d≠t)->yg l t b=b
 |[],_=>rfl
 |x::r,h=>by
  rw[yg];have:Nat.beq t x.d=false:=by
   cases hb:Nat.beq t x.d with
   |false=>rfl
   |true=>exact(h x avA (avs hb).symm).elim
  rw[this];exact Rw r λy hy=>h y (avy _ hy)
theorem NJ{b:AV}{x:dU}:∀(l:List dU),x∈l->(∀y∈l,x.d=y.d->x=y)->yg l x.d b=x.v
 |[],h,_=>agk
 |y::r,h,hu=>by
  rw[yg];cases hb:Nat.beq x.d y.d with
  |true=>rw[hu y avA (avs hb)]
  |false=>
   rcases avF.1 h with rfl|h
   .simp at hb
   .exact NJ r h λz hz=>hu z (avy _ hz)
theorem J4{o:Nat}{b:Option aB}:∀(l:List dU),(∀x∈l,look x.δ o=none)->lookO l o b=b
 |[],_=>rfl
 |x::r,h=>by rw[lookO,h x avA];exact J4 r λy hy=>h y (avy _ hy)
theorem VW{o:Nat}{b:Option aB}{x:dU}{z:aB}:∀(l:List dU),x∈l->look x.δ o=some z->(∀y∈l,∀z',look y.δ o=some z'->x=y)->lookO l o b=some z
 |[],h,_,_=>agk
 |y::r,h,hz,hu=>by
  rw[lookO];cases hy:look y.δ o with
  |some z'=>have:=hu y avA z' hy;subst this;rw[hz]at hy;exact hy.symm
  |none=>
   rcases avF.1 h with rfl|h
   .rw[hz]at hy;cases hy
   .exact VW r h hz λw hw=>hu w (avy _ hw)
theorem CZ{o:Nat}:∀(l:List dU),(∀x∈l,look x.u o=none)->nK l o=none
 |[],_=>rfl
 |x::r,h=>by rw[nK,CZ r λy hy=>h y (avy _ hy)];exact h x avA
theorem LC{o:Nat}(r:List dU):∀(l:List dU),nK (l++r) o=match nK r o with|some y=>some y|none=>nK l o
 |[]=>by simp only[awo,nK];cases nK r o<;>rfl
 |x::l=>by rw[awD,nK,LC r l,nK];cases nK r o<;>rfl
theorem Zd{o:Nat}{m m':Nat->Bool}:∀(l:List dU)(j:Nat),(∀i x,l[i]? =some x->x.u≠[]->m (j+i)=m' (j+i))->nK (pick l j m) o=nK (pick l j m') o
 |[],_,_=>rfl
 |x::r,j,h=>by
  have ih:=Zd (o:=o) (m:=m) (m':=m') r (j+1) (λi y hi hy=>by
   have:=h (i+1) y ail hy
   rwa [show j+(i+1)=j+1+i from abn]at this)
  have h0:=h 0 x rfl;rw[aw0]at h0;rw[pick,pick];cases hm:m j<;>cases hm':m' j
  .exact ih
  .have hx:x.u=[]:=awL λe=>by have:=h0 e;rw[hm,hm']at this;cases this
   simp only[nK,hx,look];rw[ih];cases nK (pick r (j+1) m') o<;>rfl
  .have hx:x.u=[]:=awL λe=>by have:=h0 e;rw[hm,hm']at this;cases this
   simp only[nK,hx,look];rw[ih];cases nK (pick r (j+1) m') o<;>rfl
  .simp only[nK,ih]
theorem Ze{x:dU}{t:Nat}{b:AV}(r:List dU):∀(l:List dU),(∀y∈l,y.d≠x.d)->yg (l++x::r) t b=match Nat.beq t x.d with|true=>x.v|false=>yg (l++r) t b
 |[],_=>by simp only[awo,yg]<;>rfl
 |y::l,h=>by
  rw[awD,awD,yg,Ze r l λz hz=>h z (avy _ hz),yg];cases hb:Nat.beq t y.d with
  |false=>rfl
  |true=>
   have:Nat.beq t x.d=false:=by
    cases hb2:Nat.beq t x.d with
    |false=>rfl
    |true=>exact(h y avA ((avs hb).symm.trans (avs hb2))).elim
   rw[this]
theorem Zf{x:dU}{o:Nat}{b:Option aB}(r:List dU):∀(l:List dU),(∀y∈l,∀z z',look y.δ o=some z->look x.δ o=some z'->False)->
 lookO (l++x::r) o b=match look x.δ o with|some y=>some y|none=>lookO (l++r) o b
 |[],_=>by simp only[awo,lookO]<;>(cases look x.δ o<;>rfl)
 |y::l,h=>by
  rw[awD,awD,lookO,Zf r l λz hz=>h z (avy _ hz),lookO];cases hy:look y.δ o with
  |none=>rfl
  |some z=>
   cases hx:look x.δ o with
   |none=>rfl
   |some z'=>exact(h y avA z z' hy hx).elim
theorem ajG{base:St}{D U:List Nat}{l r:List dU}{x:dU}(hf:Fits D U (l++x::r))(hne:∀y∈l++r,y.d≠x.d)(hu:x.u≠[]->∀y∈r,y.u=[]):
 (((lH base (l++r)).adds x.u).adds x.δ).set x.d x.v=lH base (l++x::r):=by
 have hx:x∈l++x::r:=acA;have hsub:∀y∈l++r,y∈l++x::r:=λy hy=>by
  rcases avR.1 hy with h|h
  .exact awg _ h
  .exact awz _ (avy _ h)
 have e1:(((lH base (l++r)).adds x.u).adds x.δ).set x.d x.v={n:=base.n,tmps:=λt=>match Nat.beq t x.d with|true=>x.v|false=>yg (l++r) t (base.tmps t),ah:=(((lH base (l++r)).adds x.u).adds x.δ).ah}:=by rw[Py,Py (lH base (l++r)) x.u];rfl
 rw[e1];unfold lH;congr 1
 · funext t
   rw[Ze r l λy hy=>hne y (awg _ hy)]
 · funext o
   rw[mV,mV];have hO:=Zf (x:=x) (o:=o) (b:=base.ah o) r l λy hy z z' hz hz'=>hne y (awg _ hy) ((sK (hf.new y (hsub y (awg _ hy))) hz).symm.trans (sK (hf.new x hx) hz'));have hU:nK (l++x::r) o=match look x.u o with|some y=>some y|none=>nK (l++r) o:=by
    rw[LC,LC,nK];by_cases hxu:x.u=[]
    .rw[hxu,look];cases nK r o<;>rfl
    .rw[CZ r λy hy=>by rw[hu hxu y hy];rfl]
   rw[hO,hU];cases hδ:look x.δ o with
   |none=>cases look x.u o<;>rfl
   |some z=>
    have hod:aO D (o / 64)=true:=by rw[sK (hf.new x hx) hδ];exact hf.mem x hx
    have nou:∀y∈l++x::r,look y.u o=none:=λy hy=>by
     cases hl:look y.u o with
     |none=>rfl
     |some w=>have:=(hf.upd y hy o w hl).2;rw[hod]at this;cases this
    rw[nou x hx,CZ (l++r) λy hy=>nou y (hsub y hy)]
theorem nM{o:Nat}:∀(l:List dU),aO (ny l) o=true↔∃x∈l,o∈x.k
 |[]=>by simp[ny,aO]
 |x::r=>by
  rw[sJ,ny,avR,← sJ (l:=ny r),nM r];constructor
  .rintro(h|⟨y,hy,h⟩)
   .exact⟨x,avA,h⟩
   .exact⟨y,avy _ hy,h⟩
  .rintro⟨y,hy,h⟩;rcases avF.1 hy with rfl|hy
   .exact .inl h
   .exact .inr ⟨y,hy,h⟩
theorem Cell.yV{S:Nat->Bool}(h:∀o,S o=false):∀(c:Cell),c.kill S=c
 |.int _ _|.bool _|.str _|.nil|.sl _ _ _ _|.junk=>rfl
 |.ref o=>by simp only[Cell.kill,h o]
theorem Cell.qU{S S' S2:Nat->Bool}(h:∀o,S2 o=(S o||S' o)):∀(c:Cell),(c.kill S).kill S'=c.kill S2
 |.int _ _|.bool _|.str _|.nil|.sl _ _ _ _|.junk=>rfl
 |.ref o=>by
  simp only[Cell.kill,h o];cases S o
  .simp only[ax9]
  .rfl
theorem BH{S S' S2:Nat->Bool}(h:∀o,S2 o=(S o||S' o))(cs:List Cell):(cs.map (Cell.kill S)).map (Cell.kill S')=cs.map (Cell.kill S2):=by rw[awW];exact aw7 λc _=>Cell.qU h c
theorem SV.qU{S S' S2:Nat->Bool}(h:∀o,S2 o=(S o||S' o)):∀(c:SV),(c.kill S).kill S'=c.kill S2
 |.one c=>by simp only[SV.kill,Cell.qU h]
 |.agg cs=>by simp only[SV.kill,BH h]
theorem AV.qU{S S' S2:Nat->Bool}(h:∀o,S2 o=(S o||S' o)):∀(c:AV),(c.kill S).kill S'=c.kill S2
 |.undef=>rfl
 |.sv v=>by simp only[AV.kill,SV.qU h]
 |.mJ vs=>by
  simp only[AV.kill];rw[awW,aw7 λc _=>(show((SV.kill S') ∘ (SV.kill S)) c=SV.kill S2 c from SV.qU h c)]
 |.bM o off=>by
  simp only[AV.kill,h o];cases S o
  .simp only[ax9]
  .rfl
 |.nT o i off=>by
  simp only[AV.kill,h o];cases S o
  .simp only[ax9]
  .rfl
 |.win o i off=>by
  simp only[AV.kill,h o];cases S o
  .simp only[ax9]
  .rfl
 |.qg _ _ _ _=>rfl
 |.fF cs off=>by simp only[AV.kill,BH h]
 |.fn g caps=>by simp only[AV.kill];rw[awW,aw7 λc _=>(show((List.map (Cell.kill S')) ∘ (List.map (Cell.kill S))) c=List.map (Cell.kill S2) c from BH h c)]
theorem aB.qU{S S' S2:Nat->Bool}(h:∀o,S2 o=(S o||S' o)):∀(c:aB),(c.kill S).kill S'=c.kill S2
 |.var cs=>by simp only[aB.kill,BH h]
 |.arr _ _ _ _=>rfl
theorem St.qU{S S' S2:Nat->Bool}(h:∀o,S2 o=(S o||S' o))(st:St):(st.kill S).kill S'=st.kill S2:=by
 simp only[St.kill,St.mk.injEq,axZ];refine⟨funext λt=>AV.qU h _,funext λo=>?_⟩;simp only[h o];cases S' o with
 |true=>cases S o<;>rfl
 |false=>
  cases S o with
  |true=>rfl
  |false=>
   simp only[Bool.or_false];cases st.ah o with
   |none=>rfl
   |some y=>simp only[awr,aB.qU h]
theorem Ez{S:Nat->Bool}(h:∀o,S o=false)(cs:List Cell):cs.map (Cell.kill S)=cs:=by rw[show Cell.kill S=id from funext (Cell.yV h),ax7]
theorem SV.yV{S:Nat->Bool}(h:∀o,S o=false):∀(c:SV),c.kill S=c
 |.one c=>by simp only[SV.kill,Cell.yV h]
 |.agg cs=>by simp only[SV.kill,Ez h]
theorem AV.yV{S:Nat->Bool}(h:∀o,S o=false):∀(c:AV),c.kill S=c
 |.undef=>rfl
 |.sv v=>by simp only[AV.kill,SV.yV h]
 |.mJ vs=>by simp only[AV.kill];rw[show SV.kill S=id from funext (SV.yV h),ax7]
 |.bM o off=>apg
 |.nT o i off=>apg
 |.win o i off=>apg
 |.qg _ _ _ _=>rfl
 |.fF cs off=>by simp only[AV.kill,Ez h]
 |.fn g caps=>by simp only[AV.kill];rw[show List.map (Cell.kill S)=id from funext (Ez h),ax7]
theorem aB.yV{S:Nat->Bool}(h:∀o,S o=false):∀(c:aB),c.kill S=c
 |.var cs=>by simp only[aB.kill,Ez h]
 |.arr _ _ _ _=>rfl
theorem St.yV{S:Nat->Bool}(h:∀o,S o=false)(st:St):st.kill S=st:=by
 cases st with
 |mk n t o=>
  simp only[St.kill,St.mk.injEq,axZ];refine⟨funext λq=>AV.yV h _,funext λq=>?_⟩;simp only[h q];cases o q with
  |none=>rfl
  |some y=>simp only[awr,aB.yV h]
theorem mF(l:List Nat)(st:St):sH l st=st.kill (aO l):=by
 cases l with
 |nil=>exact(St.yV (λ_=>rfl) st).symm
 |cons=>rfl
theorem Rel.sH(h:Rel w0 M T γ st a w)(l:List Nat):Rel w0 M T γ (sH l st) a w:=by rw[mF];exact h.kill _
theorem Cell.uD{X:V}{S:Nat->Bool}(h:∀o,S o=true->X.ah o=none):∀(c:Cell)(v:Value),aS X c v->c.kill S=c
 |.int _ _,_,_|.bool _,_,_|.str _,_,_|.nil,_,_|.sl _ _ _ _,_,_|.junk,_,_=>rfl
 |.ref o,v,⟨⟨e,r,l,fr,ho⟩,_⟩=>by
  simp only[Cell.kill];cases hs:S o with
  |false=>rfl
  |true=>rw[h o hs]at ho;cases ho
theorem yX{X:V}{S:Nat->Bool}(h:∀o,S o=true->X.ah o=none):∀(cs:List Cell)(vs:List Value),ai X cs vs->cs.map (Cell.kill S)=cs
 |[],[],_=>rfl
 |c::cs,v::vs,H=>by rw[avK,Cell.uD h c v H.1,yX h cs vs H.2]
 |[],_::_,H|_::_,[],H=>afM
theorem SV.uD{X:V}{S:Nat->Bool}(h:∀o,S o=true->X.ah o=none):∀(c:SV)(v:Value),dM X c v->c.kill S=c
 |.one c,v,H=>by rw[SV.kill,Cell.uD h c v H]
 |.agg cs,v,⟨vs,_,H⟩=>by rw[SV.kill,yX h cs _ H]
theorem VX{X:V}{S:Nat->Bool}(h:∀o,S o=true->X.ah o=none):∀(cs:List SV)(vs:List Value),dN X cs vs->cs.map (SV.kill S)=cs
 |[],[],_=>rfl
 |c::cs,v::vs,H=>by rw[avK,SV.uD h c v H.1,VX h cs vs H.2]
 |[],_::_,H|_::_,[],H=>afM
theorem Uo{X:V}{S:Nat->Bool}(h:∀o,S o=true->X.ah o=none):∀(l:List (List Cell))(us:List Value),fA X l us->l.map (List.map (Cell.kill S))=l
 |[],[],_=>rfl
 |cs::l,u::us,⟨⟨b,_,arr,t,fz,_,_,H⟩,H2⟩=>by rw[avK,yX h cs _ H,Uo h l us H2]
 |[],_::_,H|_::_,[],H=>afM
theorem AV.uD{X:V}{S:Nat->Bool}(h:∀o,S o=true->X.ah o=none):∀(c:AV)(v:Value),aT X c v->c.kill S=c
 |.undef,_,_=>rfl
 |.sv x,v,H=>by rw[AV.kill,SV.uD h x v H]
 |.mJ xs,v,⟨vs,_,H⟩=>by rw[AV.kill,VX h xs _ H]
 |.bM o off,v,⟨b,cs,ho,_⟩=>by
  simp only[AV.kill];cases hs:S o with
  |false=>rfl
  |true=>rw[h o hs]at ho;cases ho
 |.nT o i off,v,⟨b,n,cap,e,r,l,fr,ho,_⟩=>by
  simp only[AV.kill];cases hs:S o with
  |false=>rfl
  |true=>rw[h o hs]at ho;cases ho
 |.win o i off,v,⟨b,n,cap,e,r,l,fr,ho,_⟩=>by
  simp only[AV.kill];cases hs:S o with
  |false=>rfl
  |true=>rw[h o hs]at ho;cases ho
 |.qg _ _ _ _,_,_=>rfl
 |.fF cs off,v,⟨b,_,arr,t,fz,_,_,H⟩=>by rw[AV.kill,yX h cs _ H]
 |.fn f caps,v,⟨us,_,H⟩=>by rw[AV.kill,Uo h caps _ H]
theorem aB.uD{X:V}{S:Nat->Bool}(h:∀o,S o=true->X.ah o=none){o:Nat}:∀(x:aB),bn X o x->x.kill S=x
 |.var cs,⟨b,ar,t,_,_,H⟩=>by rw[aB.kill,yX h cs _ H]
 |.arr _ _ _ _,_=>rfl
theorem Cell.sN{S S' H:Nat->Bool}(h1:∀o,S o=true->S' o=true)(h2:∀o,S' o=true->S o=true\/H o=true):∀(c:Cell),(c.kill S).touch H=false->c.kill S'=c.kill S
 |.int _ _,_|.bool _,_|.str _,_|.nil,_|.sl _ _ _ _,_|.junk,_=>rfl
 |.ref o,ht=>by
  simp only[Cell.kill]at ht ⊢;cases hs:S o with
  |true=>rw[h1 o hs]
  |false=>
   rw[hs]at ht;have ht:H o=false:=ht;cases hs':S' o with
   |false=>rfl
   |true=>rcases h2 o hs' with g|g<;>simp_all
theorem uF{S S' H:Nat->Bool}(h1:∀o,S o=true->S' o=true)(h2:∀o,S' o=true->S o=true\/H o=true):∀(cs:List Cell),(cs.map (Cell.kill S)).any (Cell.touch H)=false->cs.map (Cell.kill S')=cs.map (Cell.kill S)
 |[],_=>rfl
 |c::cs,ht=>by rw[avK,List.any_cons,awK]at ht;rw[avK,avK,Cell.sN h1 h2 c ht.1,uF h1 h2 cs ht.2]
theorem SV.sN{S S' H:Nat->Bool}(h1:∀o,S o=true->S' o=true)(h2:∀o,S' o=true->S o=true\/H o=true):∀(c:SV),(c.kill S).touch H=false->c.kill S'=c.kill S
 |.one c,ht=>by simp only[SV.kill];rw[Cell.sN h1 h2 c ht]
 |.agg cs,ht=>by simp only[SV.kill];rw[uF h1 h2 cs ht]
theorem PX{S S' H:Nat->Bool}(h1:∀o,S o=true->S' o=true)(h2:∀o,S' o=true->S o=true\/H o=true):∀(cs:List SV),(cs.map (SV.kill S)).any (SV.touch H)=false->cs.map (SV.kill S')=cs.map (SV.kill S)
 |[],_=>rfl
 |c::cs,ht=>by rw[avK,List.any_cons,awK]at ht;rw[avK,avK,SV.sN h1 h2 c ht.1,PX h1 h2 cs ht.2]
theorem NK{S S' H:Nat->Bool}(h1:∀o,S o=true->S' o=true)(h2:∀o,S' o=true->S o=true\/H o=true):∀(l:List (List Cell)),((l.map (List.map (Cell.kill S))).any λcs=>cs.any (Cell.touch H))=false->l.map (List.map (Cell.kill S'))=l.map (List.map (Cell.kill S))
 |[],_=>rfl
 |c::cs,ht=>by rw[avK,List.any_cons,awK]at ht;rw[avK,avK,uF h1 h2 c ht.1,NK h1 h2 cs ht.2]
theorem AV.sN{S S' H:Nat->Bool}(h1:∀o,S o=true->S' o=true)(h2:∀o,S' o=true->S o=true\/H o=true):∀(c:AV),(c.kill S).touch H=false->c.kill S'=c.kill S
 |.undef,_=>rfl
 |.sv v,ht=>by simp only[AV.kill];rw[SV.sN h1 h2 v ht]
 |.mJ vs,ht=>by simp only[AV.kill];rw[PX h1 h2 vs ht]
 |.bM o off,ht=>by
  simp only[AV.kill]at ht ⊢;cases hs:S o with
  |true=>rw[h1 o hs]
  |false=>
   rw[hs]at ht;have ht:H o=false:=ht;cases hs':S' o with
   |false=>rfl
   |true=>rcases h2 o hs' with g|g<;>simp_all
 |.nT o i off,ht=>by
  simp only[AV.kill]at ht ⊢;cases hs:S o with
  |true=>rw[h1 o hs]
  |false=>
   rw[hs]at ht;have ht:H o=false:=ht;cases hs':S' o with
   |false=>rfl
   |true=>rcases h2 o hs' with g|g<;>simp_all
 |.win o i off,ht=>by
  simp only[AV.kill]at ht ⊢;cases hs:S o with
  |true=>rw[h1 o hs]
  |false=>
   rw[hs]at ht;have ht:H o=false:=ht;cases hs':S' o with
   |false=>rfl
   |true=>rcases h2 o hs' with g|g<;>simp_all
 |.qg _ _ _ _,_=>rfl
 |.fF cs off,ht=>by simp only[AV.kill];rw[uF h1 h2 cs ht]
 |.fn g caps,ht=>by simp only[AV.kill];rw[NK h1 h2 caps ht]
theorem aB.sN{S S' H:Nat->Bool}(h1:∀o,S o=true->S' o=true)(h2:∀o,S' o=true->S o=true\/H o=true):∀(c:aB),(c.kill S).touch H=false->c.kill S'=c.kill S
 |.var cs,ht=>by simp only[aB.kill];rw[uF h1 h2 cs ht]
 |.arr _ _ _ _,_=>rfl
theorem alA{v s:St}{lv lp hd:List Nat}(h:v.more s)(h1:∀o,aO lv o=true->aO lp o=true)(h2:∀o,aO lp o=true->aO lv o=true\/aO hd o=true):
 ((sH lv v).abT hd).more (sH lp s):=by
 have hc:∀(s:St),s.abT hd={n:=s.n,tmps:=(λt=>match (s.tmps t).touch (aO hd)with|true=>.undef|false=>s.tmps t),ah:=(λo=>match aO hd o with|true=>none|false=>match s.ah o with|some x=>(match x.touch (aO hd)with|true=>none|false=>some x)|none=>none)}:=by
  intro s;cases hd with
  |cons=>rfl
  |nil=>
   have t0:∀c:Cell,c.touch (aO [])=false:=λc=>by cases c<;>rfl
   have t1:∀cs:List Cell,cs.any (Cell.touch (aO []))=false:=λcs=>by rw[ayv];exactλc _=>by rw[t0 c];simp
   have t2:∀c:SV,c.touch (aO [])=false:=λc=>by cases c with|one c=>exact t0 c|agg cs=>exact t1 cs
   have t3:∀c:AV,c.touch (aO [])=false:=λc=>by
    cases c with
    |sv v=>exact t2 v
    |mJ vs=>show vs.any (SV.touch (aO []))=false;rw[ayv];exactλc _=>by rw[t2 c];simp
    |fF cs off=>exact t1 cs
    |fn g caps=>show(caps.any λcs=>cs.any (Cell.touch (aO [])))=false;rw[ayv];exactλc _=>by rw[t1 c];simp
    |_=>rfl
   have t4:∀c:aB,c.touch (aO [])=false:=λc=>by cases c with|var cs=>exact t1 cs|arr _ _ _ _=>rfl
   cases s with
   |mk n t o=>
    simp only[St.abT,St.mk.injEq,axZ];refine⟨funext λq=>?_,funext λq=>?_⟩
    .rw[t3 (t q)]
    .show o q=(match o q with|some x=>(match x.touch (aO [])with|true=>none|false=>some x)|none=>none);cases o q with
     |none=>rfl
     |some y=>dsimp only;rw[t4 y]
 rw[hc,mF,mF];refine⟨λt=>?_,λo y hy=>?_⟩
 .dsimp only[St.kill];cases ht:((v.tmps t).kill (aO lv)).touch (aO hd)with
  |true=>exact .inl rfl
  |false=>
   dsimp only;rcases h.tmps t with e|e
   .rw[e];exact .inl rfl
   .rw[e];exact .inr (AV.sN h1 h2 _ ht)
 .dsimp only[St.kill]at hy ⊢;split at hy
  .cases hy
  .next hh=>
   split at hy
   .next x hx=>
    split at hx
    .cases hx
    .next hl=>
     cases hvo:v.ah o with
     |none=>rw[hvo]at hx;cases hx
     |some y0=>
      rw[hvo]at hx;cases hx;split at hy
      .cases hy
      .next ht=>
       cases hy;have hlp:aO lp o=false:=by
        cases hlp:aO lp o with
        |false=>rfl
        |true=>rcases h2 o hlp with g|g<;>simp_all
       rw[hlp,h.ah o _ hvo];simp only[awr,aB.sN h1 h2 _ ht]
   .cases hy
theorem alB{base:St}{D U:List Nat}{path:List dU}{L L':Nat->Bool}{i:Nat}{x:dU}(hi:i<path.length)(hL:L i=false)(hL':L' i=true)(h:∀j,j≠i->L' j=L j)
 (hf:Fits D U (pick (path.set i x) 0 L')) (hne:∀y∈pick path 0 L,y.d≠x.d) (hu:x.u≠[]->∀j y,i<j->L j=true->path[j]? =some y->y.u=[]):
 (((lH base (pick path 0 L)).adds x.u).adds x.δ).set x.d x.v=lH base (pick (path.set i x) 0 L')/\(∀o,aO (ny (pick (path.set i x) 0 L')) o=(aO (ny (pick path 0 L)) o||aO x.k o)):=by
 have hsplit:path=path.take i++path[i]::path.drop (i+1):=by rw[List.getElem_cons_drop,axa]
 have hset:path.set i x=path.take i++x::path.drop (i+1):=by rw[List.set_eq_take_append_cons_drop,if_pos hi]
 have hlen:(path.take i).length=i:=aiO;have p1:pick path 0 L=pick (path.take i) 0 L++pick (path.drop (i+1)) (i+1) L:=by
  conv=>lhs;rw[hsplit]
  rw[OC,hlen,avV,pick,hL]
 have apq:∀(l:List dU)(j:Nat),(∀k,k<l.length->j+k≠i)->pick l j L'=pick l j L:=by
  intro l
  induction l with
  |nil=>intros;rfl
  |cons y l ih=>intro j hj;rw[pick,pick,h j (by simpa using hj 0 acA),ih (j+1) λk hk=>by have:=hj (k+1) (by simpa using hk);omega]
 have p2:pick (path.set i x) 0 L'=pick (path.take i) 0 L++x::pick (path.drop (i+1)) (i+1) L:=by rw[hset,OC,hlen,avV,pick,hL',apq (path.take i) 0 λk hk=>abn,apq (path.drop (i+1)) (i+1) λk hk=>abn]
 rw[p2]at hf;rw[p1]at hne;rw[p1,p2];refine⟨?_,λo=>?_⟩
 case refine_2=>
  rw[av3,awC,nM,nM,sJ];constructor
  .rintro⟨y,hy,ho⟩;rcases avR.1 hy with h|h
   .exact .inl ⟨y,awg _ h,ho⟩
   .rcases avF.1 h with rfl|h
    .exact .inr ho
    .exact .inl ⟨y,awz _ h,ho⟩
  .rintro(⟨y,hy,ho⟩|ho)
   .rcases avR.1 hy with h|h
    .exact⟨y,awg _ h,ho⟩
    .exact⟨y,awz _ (avy _ h),ho⟩
   .exact⟨x,acA,ho⟩
 refine ajG hf hne λhxu y hy=>?_;obtain⟨k,hk1,hk2⟩:=(kT _ _).1 hy;rw[av5]at hk2;exact hu hxu (i+1+k) y abn hk1 hk2
theorem alC{base:St}{D U:List Nat}{path:List dU}{L L':Nat->Bool}{i:Nat}{x:dU}(hi:i<path.length)(hL:L i=false)(hL':L' i=true)(h:∀j,j≠i->L' j=L j)
 (hf:Fits D U (pick (path.set i x) 0 L')) (hne:∀y∈pick path 0 L,y.d≠x.d) (hu:x.u≠[]->∀j y,i<j->L j=true->path[j]? =some y->y.u=[])
 (hv:x.v.kill (aO (ny (pick (path.set i x) 0 L')))=x.v)
 (hxo:∀o y,(look x.δ o=some y\/look x.u o=some y)->aO (ny (pick (path.set i x) 0 L')) o=false/\y.kill (aO (ny (pick (path.set i x) 0 L')))=y):
 (((sH x.k (after base path L)).adds x.u).adds x.δ).set x.d x.v=after base (path.set i x) L':=by
 obtain⟨e1,e2⟩:=alB (base:=base) hi hL hL' h hf hne hu;have e3:sH x.k (after base path L)=(lH base (pick path 0 L)).kill (aO (ny (pick (path.set i x) 0 L'))):=by unfold after;rw[mF,mF];exact St.qU e2 _
 rw[e3];unfold after;rw[mF,← e1];generalize aO (ny (pick (path.set i x) 0 L'))=S at hv hxo;generalize lH base (pick path 0 L)=s;have f1:∀s:St,((s.adds x.u).adds x.δ)={s with ah:=((s.adds x.u).adds x.δ).ah}:=λs=>by rw[Py,Py s x.u]
 rw[f1 (s.kill S),f1 s];simp only[St.set,St.kill,St.mk.injEq,axZ];refine⟨funext λt=>?_,funext λo=>?_⟩
 .cases Nat.beq t x.d with
  |true=>exact hv.symm
  |false=>rfl
 .rw[mV,mV,mV,mV];cases hδ:look x.δ o with
  |some y=>
   obtain⟨g1,g2⟩:=hxo o y (.inl hδ);simp only[g1,awr,g2]
  |none=>
   cases hu:look x.u o with
   |some y=>
    obtain⟨g1,g2⟩:=hxo o y (.inr hu);simp only[g1,awr,g2]
   |none=>rfl
theorem alD{base:St}{path:List dU}{L:Nat->Bool}(hL:∀i,L i=false):after base path L=base:=by unfold after;rw[afB path 0 L λi _=>hL i];rfl
theorem an9(h:Rel w0 M T γ st a w)(D:List Nat):Rel w0 M T γ (bQ D st) a w:=h.kill _
theorem afE{D:List Nat}{o:Nat}(h:aO D (o / 64)=true):(bQ D st).ah o=none:=by simp[bQ,St.kill,h]
theorem alE{R:Reg}{path:List dU}{L:Nat->Bool}{i:Nat}(hf:Fits R.D R.U (pick path 0 L))(hsub:∀j,(R.ms.getD i 0).testBit j=true->L j=true)
 (hidx:∀k x,path[k]? =some x->idxOf R.D x.d 0=some k) (hi:L i=false) (hdown:∀k,L k=true->(R.ms.getD k 0).testBit i=false)
 (heff:D7 R.ms R.E i=true->∀j x,path[j]? =some x->x.u≠[]->L j=true->(R.ms.getD i 0).testBit j=true):
 ((match D7 R.ms R.E i with
   |true=>lH (bQ R.D st) (pick path 0 (R.ms.getD i 0).testBit)
   |false=>(lH (bQ R.D st) (pick path 0 (R.ms.getD i 0).testBit)).hide R.U).veil R i).more (lH (bQ R.D st) (pick path 0 L)):=by
 have hmem:∀x∈pick path 0 (R.ms.getD i 0).testBit,x∈pick path 0 L:=λx hx=>by obtain⟨j,h1,h2⟩:=(kT _ _).1 hx;rw[avV]at h1;exact(kT _ _).2 ⟨j,by rw[avV];exact hsub j h1,h2⟩
 have ht:∀t,aad R i t=false->yg (pick path 0 L) t ((bQ R.D st).tmps t)=yg (pick path 0 (R.ms.getD i 0).testBit) t ((bQ R.D st).tmps t):=by
  intro t hh;by_cases he:∃x∈pick path 0 (R.ms.getD i 0).testBit,x.d=t
  .obtain⟨x,hx,rfl⟩:=he;rw[NJ _ hx λy hy e=>hf.one x (hmem x hx) y (hmem y hy) e,NJ _ (hmem x hx) λy hy e=>hf.one x (hmem x hx) y hy e]
  .rw[Rw (pick path 0 (R.ms.getD i 0).testBit) λx hx e=>he ⟨x,hx,e⟩];refine Rw _ λx hx e=>?_;obtain⟨k,h1,h2⟩:=(kT _ _).1 hx;rw[avV]at h1;have hk:=hidx k x h2;rw[e]at hk;unfold aad at hh;rw[hk]at hh;simp only[Bool.not_eq_false',awC]at hh;rcases hh with g|g|g
   .have:=avs g;subst this;rw[hi]at h1;cases h1
   .exact he ⟨x,(kT _ _).2 ⟨k,by rw[avV];exact g,h2⟩,e⟩
   .rw[hdown k h1]at g;cases g
 have hO:∀o y,lookO (pick path 0 (R.ms.getD i 0).testBit) o ((bQ R.D st).ah o)=some y->lookO (pick path 0 L) o ((bQ R.D st).ah o)=some y:=by
  intro o y hy;by_cases he:∃x∈pick path 0 (R.ms.getD i 0).testBit,∃z,look x.δ o=some z
  .obtain⟨x,hx,z,hz⟩:=he;have apr:∀w∈pick path 0 L,∀z',look w.δ o=some z'->x=w:=λw hw z' hz'=>
    hf.one x (hmem x hx) w hw ((sK (hf.new x (hmem x hx)) hz).symm.trans (sK (hf.new w hw) hz'))
   rw[VW _ hx hz λw hw z' hz'=>apr w (hmem w hw) z' hz']at hy;rw[VW _ (hmem x hx) hz apr];exact hy
  .have hno:∀x∈pick path 0 (R.ms.getD i 0).testBit,look x.δ o=none:=λx hx=>by
    cases hl:look x.δ o with
    |none=>rfl
    |some z=>exact(he ⟨x,hx,z,hl⟩).elim
   rw[J4 _ hno]at hy;rw[J4,hy];intro x hx;cases hl:look x.δ o with
   |none=>rfl
   |some z=>rw[afE (by rw[sK (hf.new x hx) hl];exact hf.mem x hx)]at hy;cases hy
 have hsame:∀o y,nK (pick path 0 (R.ms.getD i 0).testBit) o=nK (pick path 0 L) o->(lH (bQ R.D st) (pick path 0 (R.ms.getD i 0).testBit)).ah o=some y->(lH (bQ R.D st) (pick path 0 L)).ah o=some y:=by
  intro o y he hy;unfold lH at hy ⊢;dsimp only at hy ⊢;rw[he]at hy;split at hy
  .next z hz=>exact hy
  .next hz=>exact hO o y hy
 have aps:∀s:St,(∀t,s.tmps t=yg (pick path 0 (R.ms.getD i 0).testBit) t ((bQ R.D st).tmps t))->(∀o y,s.ah o=some y->(lH (bQ R.D st) (pick path 0 L)).ah o=some y)->(s.veil R i).more (lH (bQ R.D st) (pick path 0 L)):=by
  intro s h1 h2;refine⟨λt=>?_,h2⟩;show(match aad R i t with|true=>AV.undef|false=>s.tmps t)=.undef\/_=(match aad R i t with|true=>AV.undef|false=>s.tmps t);cases hh:aad R i t with
  |true=>exact .inl rfl
  |false=>right;dsimp only;rw[h1 t];exact ht t hh
 split
 .next hc=>
  refine aps _ (λt=>rfl) λo y hy=>hsame o y ?_ hy;refine Zd path 0 λj x hj hu=>?_;rw[avV];cases hL:L j with
  |true=>exact heff hc j x hj hu hL
  |false=>
   cases hm:(R.ms.getD i 0).testBit j with
   |false=>rfl
   |true=>rw[hsub j hm]at hL;cases hL
 .next hc=>
  refine aps _ (λt=>rfl) λo y hy=>?_;unfold St.hide at hy;dsimp only at hy;split at hy
  .cases hy
  .next hU=>
   refine hsame o y ?_ hy;have nou:∀x∈pick path 0 L,look x.u o=none:=λx hx=>by
    cases hl:look x.u o with
    |none=>rfl
    |some z=>have:=(hf.upd x hx o z hl).1;rw[hU]at this;cases this
   rw[CZ _ nou,CZ _ λx hx=>nou x (hmem x hx)]
theorem amT(st:St)(U:List Nat)(S:Nat->Bool):(st.kill S).hide U=(st.hide U).kill S:=by
 simp only[St.hide,St.kill,St.mk.injEq,axZ]
 funext o
 cases aO U o<;>cases S o<;>rfl
theorem afF(st:St)(R:Reg)(i:Nat)(S:Nat->Bool):(st.kill S).veil R i=(st.veil R i).kill S:=by
 simp only[St.veil,St.kill,St.mk.injEq,axZ,ayB]
 funext t
 cases aad R i t<;>rfl
theorem ah3{ms:List Nat}{i e q:Nat}(PY:e≠i)(h1:(ms.getD i 0).testBit e=false)(h2:(ms.getD e 0).testBit i=false):∀(A:List (Nat×Nat)),H7 A e q=true->aO (ad9 ms i A) q=true
 |[],h=>agk
 |(e',q')::r,h=>by
  rw[H7]at h;rw[ad9];cases hb:Nat.beq e' e&&Nat.beq q' q with
  |true=>
   rw[avo]at hb;rw[avs hb.1,avs hb.2,h1,h2,Aj PY];simp[aO,awi]
  |false=>
   rw[hb]at h;have ih:=ah3 PY h1 h2 r h;split
   .exact ih
   .rw[aO,ih];split<;>rfl
theorem ajH{R:Reg}{path:List dU}{L:Nat->Bool}{i:Nat}(hf:Fits R.D R.U (pick path 0 L))(hsub:∀j,(R.ms.getD i 0).testBit j=true->L j=true)
 (hidx:∀k x,path[k]? =some x->idxOf R.D x.d 0=some k) (hi:L i=false) (hdown:∀k,L k=true->(R.ms.getD k 0).testBit i=false)
 (heff:D7 R.ms R.E i=true->∀j x,path[j]? =some x->x.u≠[]->L j=true->(R.ms.getD i 0).testBit j=true)
 (hk:∀e x,path[e]? =some x->L e=true->∀q∈x.k,H7 R.A e q=true):
 (viewAt R (bQ R.D st) path i).more (after (bQ R.D st) path L):=by
 have h0:=alE (st:=st) hf hsub hidx hi hdown heff;have e:viewAt R (bQ R.D st) path i=(sH (ny (pick path 0 (R.ms.getD i 0).testBit)) ((match D7 R.ms R.E i with
  |true=>lH (bQ R.D st) (pick path 0 (R.ms.getD i 0).testBit)
  |false=>(lH (bQ R.D st) (pick path 0 (R.ms.getD i 0).testBit)).hide R.U).veil R i)).abT (ad9 R.ms i R.A):=by
  unfold viewAt after;rw[mF,mF];cases D7 R.ms R.E i
  .dsimp only;rw[amT,afF]
  .dsimp only;rw[afF]
 rw[e];refine alA h0 (λo ho=>?_) λo ho=>?_
 .obtain⟨x,hx,hxo⟩:=(nM _).1 ho;obtain⟨j,h1,h2⟩:=(kT _ _).1 hx;rw[avV]at h1;exact(nM _).2 ⟨x,(kT _ _).2 ⟨j,by rw[avV];exact hsub j h1,h2⟩,hxo⟩
 .obtain⟨x,hx,hxo⟩:=(nM _).1 ho;obtain⟨j,h1,h2⟩:=(kT _ _).1 hx;rw[avV]at h1;cases hb:(R.ms.getD i 0).testBit j with
  |true=>exact .inl ((nM _).2 ⟨x,(kT _ _).2 ⟨j,by rw[avV];exact hb,h2⟩,hxo⟩)
  |false=>exact .inr (ah3 (λe=>by subst e;rw[hi]at h1;cases h1) hb (hdown j h1) R.A (hk j x h2 h1 o hxo))
theorem afG:∀(l:List Nat)(j i d:Nat),nodup l=true->l[i]? =some d->idxOf l d j=some (j+i)
 |[],_,_,_,_,h=>amA
 |x::r,j,0,d,_,h=>by
  simp at h;subst h;rw[idxOf,awi];rfl
 |x::r,j,i+1,d,hn,h=>by
  rw[nodup,avo]at hn;have hne:Nat.beq d x=false:=by
   cases hb:Nat.beq d x with
   |false=>rfl
   |true=>have hx:=avs hb;subst hx;have:aO r d=true:=sJ.2 (awc acG);rw[this]at hn;simp at hn
  rw[idxOf,hne,show j+(i+1)=j+1+i from abn];exact afG r (j+1) i d hn.2 acG
end Go.Fw
namespace Go.Fw
open Go
variable {P:Program} {w0:World} {M:Nat->Prop} {T:Ext} {γ γ':Nat->Value} {st s:St} {a:Act} {w w':World} {Θ:jr} {Γ:kR}
theorem Cell.yY{S:Nat->Bool}(h:∀o,S o=false):∀(c:Cell),c.kill S=c
 |.ref o=>by simp only[Cell.kill,h o]
 |.int _ _|.bool _|.str _|.nil|.sl _ _ _ _|.junk=>rfl
theorem EC{S:Nat->Bool}(h:∀o,S o=false)(cs:List Cell):cs.map (Cell.kill S)=cs:=by rw[show Cell.kill S=id from funext (Cell.yY h),ax7]
theorem SV.yY{S:Nat->Bool}(h:∀o,S o=false):∀(c:SV),c.kill S=c
 |.one c=>by simp only[SV.kill,Cell.yY h]
 |.agg cs=>by simp only[SV.kill,EC h]
theorem AV.yY{S:Nat->Bool}(h:∀o,S o=false):∀(c:AV),c.kill S=c
 |.undef=>rfl
 |.sv v=>by simp only[AV.kill,SV.yY h]
 |.mJ vs=>by simp only[AV.kill];rw[show SV.kill S=id from funext (SV.yY h),ax7]
 |.bM o off=>apg
 |.nT o i off=>apg
 |.win o i off=>apg
 |.qg _ _ _ _=>rfl
 |.fF cs off=>by simp only[AV.kill,EC h]
 |.fn f caps=>by simp only[AV.kill];rw[show List.map (Cell.kill S)=id from funext (EC h),ax7]
theorem aB.yY{S:Nat->Bool}(h:∀o,S o=false):∀(c:aB),c.kill S=c
 |.var cs=>by simp only[aB.kill,EC h]
 |.arr _ _ _ _=>rfl
theorem St.yY{S:Nat->Bool}(h:∀o,S o=false)(st:St):st.kill S=st:=by
 unfold St.kill;rw[show(λt=>(st.tmps t).kill S)=st.tmps from funext λt=>AV.yY h _];have:(λo=>match S o with|true=>none|false=>(st.ah o).map (aB.kill S))=st.ah:=by
  funext o
  rw[h o,show aB.kill S=id from funext (aB.yY h)];cases st.ah o<;>rfl
 exact congrArg (λf=>({n:=st.n,tmps:=st.tmps,ah:=f}:St)) this
theorem alF:∀(c:Cell),c.refs=[]->c.view s=c.view st
 |.int _ _,_|.bool _,_|.str _,_|.nil,_|.sl _ _ _ _,_|.junk,_=>rfl
theorem Zg:∀(cs:List Cell),cs.flatMap Cell.refs=[]->cs.map (Cell.view s)=cs.map (Cell.view st)
 |[],_=>rfl
 |c::cs,h=>by rw[awG,awj]at h;rw[avK,avK,alF c h.1,Zg cs h.2]
theorem VY(h:st.more s){m:Mode}{x:AV}{r:Arg×Option Nat}(hr:pK st m x=some r):pK s m x=some r:=by
 unfold pK at hr ⊢;cases m with
 |val=>
  dsimp only at hr ⊢;split at hr
  .next a hx ha=>rw[hx,AB h _ _ ha];exact hr
  .cases hr
 |own=>
  dsimp only at hr ⊢;split at hr
  .split at hr
   .next ho=>rw[h.ah _ _ ho];exact hr
   .cases hr
  .cases hr
 |ptr=>
  dsimp only at hr ⊢;split at hr
  .split at hr
   .next hb ho=>
    split at hr
    .next hn=>rw[hb,h.ah _ _ ho];dsimp only;rw[hn,Zg (s:=s) (st:=st) _ hn];exact hr
    .cases hr
   .cases hr
  .cases hr
theorem Ur{m:Mode}{x:AV}{r:Arg×Option Nat}(hr:pK st m x=some r):x≠ .undef:=by rintro rfl;cases m<;>simp[pK,oZ]at hr
theorem Gh(h:st.more s):∀(os:List (Option Nat))(aH:List Eff)(δ:List (Nat×aB)),nJ st os aH=some δ->nJ s os aH=some δ
 |[],_,_,hb=>by unfold nJ at hb ⊢;exact hb
 |none::os,aH,δ,hb=>by rw[nJ]at hb ⊢;exact Gh h os _ δ hb
 |some o::os,aH,δ,hb=>by
  unfold nJ at hb ⊢;split at hb
  .next h1 h2=>rw[h1,Gh h _ _ _ h2];dsimp only;exact hb
  .next h1 h2 h3=>rw[h1,h.ah _ _ h2,Gh h _ _ _ h3];dsimp only;exact hb
  .next h1 h2 h3=>rw[h1,h.ah _ _ h2,Gh h _ _ _ h3];dsimp only;exact hb
  .cases hb
theorem OD:∀(os:List (Option Nat))(aH:List Eff),PW os aH=true->∀p,iP os aH p=false
 |[],_,_,_=>rfl
 |none::os,aH,h,p=>by rw[PW]at h;rw[iP];exact OD os _ h p
 |some o::os,aH,h,p=>by
  unfold PW at h;unfold iP;split at h
  .next cs he=>rw[he];exact OD os _ h p
  .cases h
theorem agv(h:st.more s){m:Mode}{x:AV}{r:Arg×Option Nat}(hr:rH st m x=some r):rH s m x=some r:=by
 cases m with
 |val=>
  simp only[rH]at hr ⊢;split at hr
  .next a ha=>rw[AB h _ _ ha];exact hr
  .cases hr
 |own=>exact VY h (m:=.own) hr
 |ptr=>exact VY h (m:=.ptr) hr
theorem aea{m:Mode}{x:AV}{r:Arg×Option Nat}(hr:rH st m x=some r):x≠ .undef:=by
 cases m with
 |val=>rintro rfl;simp[rH,oZ]at hr
 |own=>exact Ur (m:=.own) hr
 |ptr=>exact Ur (m:=.ptr) hr
theorem Zh(h:st.more s):∀(ms:List Mode)(xs:List AV)(r:List Arg×List (Option Nat)),wV st ms xs=some r->wV s ms xs=some r
 |_,[],r,hr=>by unfold wV at hr ⊢;exact hr
 |ms,x::xs,r,hr=>by
  unfold wV at hr ⊢;split at hr
  .next h1 h2=>rw[agv h h1,Zh h _ _ _ h2];exact hr
  .cases hr
theorem VZ:∀(ms:List Mode)(xs:List AV)(r:List Arg×List (Option Nat)),wV st ms xs=some r->∀x∈xs,x≠ .undef
 |_,[],_,_,x,hx=>afg
 |ms,x::xs,r,hr,y,hy=>by
  unfold wV at hr;split at hr
  .next h1 h2=>
   rcases avF.1 hy with rfl|hy
   .exact aea h1
   .exact VZ _ _ _ h2 y hy
  .cases hr
theorem alG{xs:List AV}(h:FU xs=true):vV xs=[]:=by
 unfold FU at h;split at h
 .next h0=>exact h0
 .cases h
theorem Am:∀(ms:List Mode)(xs:List AV)(r:List Arg×List (Option Nat)),vV (DW ms xs)=[]->wV st ms xs=some r->hands st ms xs=some r
 |_,[],r,_,hr=>by unfold wV at hr;unfold hands;exact hr
 |ms,x::xs,r,hn,hr=>by
  unfold wV at hr;split at hr
  .next a o as os h1 h2=>
   have key:hands st ms.tail xs=some (as,os)/\pK st (ms.headD .val) x=some (a,o):=by
    cases ms with
    |nil=>
     have hn':x.refs++vV xs=[]:=hn;rw[awj]at hn';refine⟨Am [] xs _ (by cases xs<;>exact hn'.2) h2,?_⟩;have h1:rH st .val x=some (a,o):=h1;simp only[rH]at h1;show pK st .val x=_;simp only[pK,hn'.1];split at h1
     .next b hb=>rw[hb];exact h1
     .cases h1
    |cons m ms=>
     cases m with
     |val=>
      have hn':x.refs++vV (DW ms xs)=[]:=hn;rw[awj]at hn';refine⟨Am ms xs _ hn'.2 h2,?_⟩;have h1:rH st .val x=some (a,o):=h1;simp only[rH]at h1;show pK st .val x=_;simp only[pK,hn'.1];split at h1
      .next b hb=>rw[hb];exact h1
      .cases h1
     |own=>exact⟨Am ms xs _ hn h2,h1⟩
     |ptr=>exact⟨Am ms xs _ hn h2,h1⟩
   unfold hands;rw[key.1,key.2];exact hr
  .cases hr
theorem agw{m:Mode}{x:AV}{a:Arg}{o:Option Nat}(h:rH st m x=some (a,o)):E8 false st x a o:=by
 have weak:E8 true st x a o->E8 false st x a o:=λh=>h.imp (λ⟨h1,_,h3⟩=>⟨h1,(λe=>ahB),h3⟩) id;cases m with
 |val=>
  simp only[rH]at h;split at h
  .next b hb=>cases h;exact .inl ⟨rfl,(λe=>ahB),hb⟩
  .cases h
 |own=>exact weak (Ld (m:=.own) h)
 |ptr=>exact weak (Ld (m:=.ptr) h)
theorem Zi:∀(ms:List Mode)(xs:List AV)(as:List Arg)(os:List (Option Nat)),wV st ms xs=some (as,os)->qP false st xs as os
 |_,[],as,os,h=>by unfold wV at h;cases h;trivial
 |ms,x::xs,as,os,h=>by
  unfold wV at h;split at h
  .next a o as' os' h1 h2=>cases h;exact⟨agw h1,Zi ms.tail xs as' os' h2⟩
  .cases h
theorem ah4{G:jX}(hE:rD P G Θ Γ w0 M)(h:Rel w0 M T γ s a w)(hm:st.more s)(o:Oper){D U:List Nat}{d:Nat}{p:Prop}{ρ:Jr}{os:List (Option Nat)×Bool}
 (hc:PV Γ st o.op=some (p,ρ,os)) (hp:p) (hd:∀q,q / 64=d->s.ah q=none) (hch:∀t,ρ.R t->∃r,Gg D U d st os (ρ.out t) (ρ.aH t)=some r) {next:Act->World->Prop} {Q:Exit->Act->World->Prop}
 (hn:∀t v υ δ u γ' w',ρ.R t->Gg D U d st os (ρ.out t) (ρ.aH t)=some (v,υ,δ)->Rel w0 M T γ' ((s.adds υ).adds δ) a w'->aT (aj w0 T γ' ((s.adds υ).adds δ) w') v u->next (a.put o.dst u) w'):o.wp P a w next Q:=by
 unfold PV at hc;split at hc
 case h_2=>cases hc
 next f args pV hop=>
 split at hc
 case h_2=>cases hc
 next ms con hcon=>
 split at hc
 case h_2=>cases hc
 next vs os' VI=>
 split at hc
 case h_2=>cases hc
 next hno=>
 split at hc
 case h_2=>cases hc
 next q ρ' hq=>
 cases hc;have hand:handed s args.toList []=handed st args.toList []:=OA hm [] _ (VZ _ _ _ VI);have aeb:=Zh hm _ _ _ VI;rw[← hand]at aeb hno hch hn;obtain⟨hok,hcall⟩:=hE.ag1 f ms con hcon;have hv:aT (aj w0 T γ s w) (.fn f []) (a.eval (.func f)):=jc h (.func f);obtain⟨us,hvx,hkx⟩:=hv;unfold Oper.wp;rw[Nv hop hvx hcall,ayk];have hxs:oG (aj w0 T γ s w) (handed s args.toList []) (args.map a.eval++us).toList:=by rw[axC,axA];exact F6 h hkx args.toList
 have hk:(d*64+1)%64=1:=abn;have hspec:∀t,ρ.R t->∃υ,yQ os'=true/\IV (ρ.aH t) ((ρ.out t).take (d*64+1)).2=true/\nJ s os' (ρ.aH t)=some υ/\s.kill (iP os' (ρ.aH t))=s/\jJ s ((ρ.out t).take (d*64+1)).2=true/\
  (!(!(FU (DW ms (handed s args.toList []))))||((ρ.out t).made&&Le (ρ.aH t)))=true/\
  Gg D U d st (os',!(FU (DW ms (handed s args.toList [])))) (ρ.out t) (ρ.aH t)=some (((ρ.out t).take (d*64+1)).1,υ,((ρ.out t).take (d*64+1)).2):=by
  intro t ht;obtain⟨r,hr⟩:=hch t ht;have hr0:=hr;unfold Gg at hr;split at hr
  .next υ hnd hb=>
   rw[avo,avo,avo,avo]at hnd;split at hr
   .cases hr;refine⟨υ,hnd.1,hnd.2.1,Gh hm _ _ _ hb,St.yY (OD _ _ hnd.2.2.1) s,?_,hnd.2.2.2.2,hr0⟩;refine avL.2 λz hz=>?_;rw[hd z.1 (avs (avL.1 hnd.2.2.2.1 z hz))];rfl
   .cases hr
  .cases hr
 have hpre:∀t,ρ.R t->∃δ,nJ s os' (ρ.aH t)=some δ/\jJ (s.kill (iP os' (ρ.aH t))) ((ρ.out t).take (d*64+1)).2=true/\IV (ρ.aH t) ((ρ.out t).take (d*64+1)).2=true:=λt ht=>by obtain⟨υ,_,g1,g2,g3,g4,_,_⟩:=hspec t ht;exact⟨υ,g2,by rw[g3];exact g4,g1⟩
 obtain⟨t0,ht0⟩:=(hok vs _ ρ hq hp).1;obtain⟨_,hnd,_⟩:=hspec t0 ht0;have aqO:Calls P f (args.map a.eval++us) w λe w'=>∃t δ,ρ.R t/\nJ s os' (ρ.aH t)=some δ/\∃v γ',e=.returned v/\
  Rel w0 M T γ' (((s.kill (iP os' (ρ.aH t))).adds δ).adds ((ρ.out t).take (d*64+1)).2) a w'/\aT (aj w0 T γ' (((s.kill (iP os' (ρ.aH t))).adds δ).adds ((ρ.out t).take (d*64+1)).2) w') ((ρ.out t).take (d*64+1)).1 v:=by
  cases hnr:FU (DW ms (handed s args.toList []))with
  |true=>exact h.akg hE hxs (Ri ms _ vs os' (Am ms _ _ (alG hnr) aeb)) hnd hk hok hq hp hpre
  |false=>
   rw[hnr]at hno;refine h.ahG hE hxs (Zi ms _ vs os' aeb) hnd hk hok hq hp (λq e r l he=>?_) (λt ht=>?_) hpre
   .unfold dF at he;split at he
    .next e' r' l' hb=>have:=avL.1 hno _ (awc hb);cases this
    .split at he<;>cases he
    .cases he
   .obtain⟨_,_,_,_,_,_,g,_⟩:=hspec t ht;rw[hnr]at g;simpa using g
 refine aqO.mono ?_;rintro e w' ⟨t,δ,ht,hb,u,γ',rfl,g1,g2⟩;obtain⟨υ,_,_,k2,k3,_,_,k5⟩:=hspec t ht;have hδ:υ=δ:=Option.some.inj (k2.symm.trans hb);subst hδ;rw[k3]at g1 g2;exact hn t _ _ _ u γ' w' ht k5 g1 g2
theorem Cb{ops:Array Oper}{listed:Array Bool}{i:Nat}:i∈Region.ready .any ops listed↔
 ∃o,ops[i]? =some o/\listed.getD i true=false/\∀e∈o.after,Region.binds .any e=true->listed.getD e.on false=true:=by
 rw[mem_ready];constructor
 .rintro⟨h1,o,h2,h3⟩;exact⟨o,h2,h1,h3⟩
 .rintro⟨o,h2,h1,h3⟩;exact⟨h1,o,h2,h3⟩
theorem Fb{listed:Array Bool}{i:Nat}(hi:i<listed.size):listed.getD i true=listed.getD i false:=by simp[Array.getD,hi]
theorem apV(d:Nat):(d*64+1) / 64=d:=abn
theorem afH{o:Op}(h:yU o=true):yh Γ o=true:=by
 unfold yU at h;split at h
 .rfl
 .cases h
theorem Rel.aqP(h:Rel w0 M T γ st a w)(d:Nat)(hd:st.n<=d)(v:AV)(hv:v=.mJ []):Rel w0 M T γ (st.set d v) (a.put none undef) w:=by
 refine⟨h.mT,h.defers,h.size,h.os,h.tape,h.output,h.grow,h.kept,λt=>?_,h.ah,h.lt,h.sep,h.pin⟩;show aT _ (match Nat.beq t d with|true=>v|false=>st.tmps t) (a.tmps.getD t undef);cases hb:Nat.beq t d with
 |false=>exact h.tmps t
 |true=>
  have e:=avs hb;have hs:=h.size;have:a.tmps.getD t undef=undef:=by simp[Array.getD,show ¬t<a.tmps.size from abn]
  rw[this,hv];exact⟨#[],rfl,trivial⟩
theorem aec{G:jX}(hE:rD P G Θ Γ w0 M){s:St}(h:Rel w0 M T γ s a w)(hm:st.more s)(o:Oper){υ:List (Nat×aB)}(hc:Ls Θ st o.op=some υ){next:Act->World->Prop}{Q:Exit->Act->World->Prop}
 (hn:∀γ' w',Rel w0 M T γ' ((s.adds υ).adds []) a w'->next (a.put o.dst undef) w'):o.wp P a w next Q:=by
 unfold Ls at hc;split at hc
 case h_2=>cases hc
 next t p x hop=>
 split at hc
 case h_2=>cases hc
 next v ti q off hv ht hp=>
 split at hc
 case h_2=>cases hc
 next cs hlen ho=>
 split at hc
 case h_2=>cases hc
 next Rf=>
 cases hc;have hs:store s (.bM q off) v=some (True,s.add q (.var (splice cs off v.cells))):=by unfold store;simp only[hm.ah q _ ho,Rf]
 have hpv:=jc h p;rw[bH hm hp acA]at hpv;have hxv:=jc h x;rw[bH hm hv acA]at hxv;obtain⟨w',h1,h2⟩:=afn hE.types h ht hs trivial hpv hxv (avs hlen);exact Oper.wp_skip (w':=w') (by simp[execOp,hop,h1]) (hn γ w' h2)
theorem Cell.lX{S:Nat->Bool}(st:St):∀(c:Cell),c.kill S=c->c.freeze st S=c
 |.ref o,h=>by
  simp only[Cell.kill]at h;simp only[Cell.freeze];cases hs:S o with
  |true=>rw[hs]at h;cases h
  |false=>rfl
 |.int _ _,_|.bool _,_|.str _,_|.nil,_|.sl _ _ _ _,_|.junk,_=>rfl
theorem o8{S:Nat->Bool}(st:St):∀(cs:List Cell),cs.map (Cell.kill S)=cs->cs.map (Cell.freeze st S)=cs
 |[],_=>rfl
 |c::cs,h=>by rw[avK,List.cons.injEq]at h;rw[avK,Cell.lX st c h.1,o8 st cs h.2]
theorem SV.lX{S:Nat->Bool}(st:St):∀(c:SV),c.kill S=c->c.freeze st S=c
 |.one c,h=>by
  simp only[SV.kill,SV.one.injEq]at h;simp only[SV.freeze,Cell.lX st c h]
 |.agg cs,h=>by simp only[SV.kill,SV.agg.injEq]at h;simp only[SV.freeze,o8 st cs h]
theorem I7{S:Nat->Bool}(st:St):∀(cs:List SV),cs.map (SV.kill S)=cs->cs.map (SV.freeze st S)=cs
 |[],_=>rfl
 |c::cs,h=>by rw[avK,List.cons.injEq]at h;rw[avK,SV.lX st c h.1,I7 st cs h.2]
theorem Hg{S:Nat->Bool}(st:St):∀(l:List (List Cell)),l.map (List.map (Cell.kill S))=l->l.map (List.map (Cell.freeze st S))=l
 |[],_=>rfl
 |c::cs,h=>by rw[avK,List.cons.injEq]at h;rw[avK,o8 st c h.1,Hg st cs h.2]
theorem AV.lX{S:Nat->Bool}(st:St):∀(c:AV),c.kill S=c->c.freeze st S=c
 |.undef,_=>rfl
 |.sv v,h=>by
  simp only[AV.kill,AV.sv.injEq]at h;simp only[AV.freeze,SV.lX st v h]
 |.mJ vs,h=>by
  simp only[AV.kill,AV.mJ.injEq]at h;simp only[AV.freeze,I7 st vs h]
 |.bM o off,h=>by
  simp only[AV.kill]at h;simp only[AV.freeze];cases hs:S o with
  |true=>rw[hs]at h;cases h
  |false=>rfl
 |.nT o i off,h=>by
  simp only[AV.kill]at h;simp only[AV.freeze];cases hs:S o with
  |true=>rw[hs]at h;cases h
  |false=>rfl
 |.win o i off,h=>by
  simp only[AV.kill]at h;simp only[AV.freeze];cases hs:S o with
  |true=>rw[hs]at h;cases h
  |false=>rfl
 |.qg _ _ _ _,_=>rfl
 |.fF cs off,h=>by
  simp only[AV.kill,AV.fF.injEq]at h;simp only[AV.freeze,o8 st cs h.1]
 |.fn f caps,h=>by simp only[AV.kill,AV.fn.injEq]at h;simp only[AV.freeze,Hg st caps h.2]
theorem aB.lX{S:Nat->Bool}(st:St):∀(c:aB),c.kill S=c->c.freeze st S=c
 |.var cs,h=>by
  simp only[aB.kill,aB.var.injEq]at h;simp only[aB.freeze,o8 st cs h]
 |.arr _ _ _ _,_=>rfl
theorem aoa{s:St}{γ0:Nat->Value}{w1:World}{a1:Act}(h0:Rel w0 M T γ0 s a1 w1){q:Nat}(hq:s.ah q=none){e:TypeId}{r:ax}{l:List r.den}{fr:Bool}{u:Value}
 (h:Rel w0 M T γ (s.adds [(q,.arr e r l fr)]) a w) (hv:aT (aj w0 T γ (s.adds [(q,.arr e r l fr)]) w) (.sv (.one (.ref q))) u):
 Rel w0 M T γ s a w/\aT (aj w0 T γ s w) (.sv (.one (.sl e r l fr))) u:=by
 have hS:∀o,Nat.beq q o=true->s.ah o=none:=λo ho=>by rw[← avs ho];exact hq
 have o6:(s.adds [(q,.arr e r l fr)]).ah q=some (.arr e r l fr):=by show(match Nat.beq q q with|true=>some _|false=>_)=_;rw[awi]
 have hne:∀o,Nat.beq q o=false->(s.adds [(q,.arr e r l fr)]).ah o=s.ah o:=λo ho=>by
  show(match Nat.beq o q with|true=>some _|false=>_)=_;cases hb:Nat.beq o q with
  |false=>rfl
  |true=>rw[avs hb,awi]at ho;cases ho
 have hs:(s.adds [(q,.arr e r l fr)]).freeze (Nat.beq q)=s:=by
  have ht:((s.adds [(q,.arr e r l fr)]).freeze (Nat.beq q)).tmps=s.tmps:=by
   funext t
   exact AV.lX _ _ (AV.uD hS _ _ (h0.tmps t))
  have ho:((s.adds [(q,.arr e r l fr)]).freeze (Nat.beq q)).ah=s.ah:=by
   funext o
   simp only[St.freeze];cases hb:Nat.beq q o with
   |true=>simp only[hS o hb]
   |false=>
    simp only[hne o hb];cases hx:s.ah o with
    |none=>rfl
    |some x=>simp only[awr,aB.lX _ x (aB.uD hS x (h0.ah o x hx))]
  show(⟨s.n,((s.adds [(q,.arr e r l fr)]).freeze (Nat.beq q)).tmps,((s.adds [(q,.arr e r l fr)]).freeze (Nat.beq q)).ah⟩:St)=⟨s.n,s.tmps,s.ah⟩;rw[ht,ho]
 have h1:=h.freeze (S:=Nat.beq q);have h2:=aT.freeze (S:=Nat.beq q) h _ _ hv;rw[hs]at h1 h2;refine⟨h1,?_⟩;simp only[AV.freeze,SV.freeze,Cell.freeze,awi,o6]at h2;exact h2
structure Way(R:Reg)(ops:Array Oper)(t0:Nat)(path:List dU):Prop where
 len:path.length=t0
 dst:∀(i:Nat)(o:Oper)(x:dU),ops[i]? =some o->path[i]? =some x->rW R.n i o=some x.d
 aob:∀x∈path,aO R.D x.d=true
 apart:∀(i j:Nat)(x y:dU),path[i]? =some x->path[j]? =some y->x.d=y.d->i=j
 idx:∀(i:Nat)(x:dU),path[i]? =some x->idxOf R.D x.d 0=some i
theorem rF.fit{R:Reg}{base:St}{path:List dU}{i:Nat}{o:Oper}{x:dU}(h:rF Θ Γ R base path i o x):
 CY x.d x.δ=true/\(∀q y,look x.u q=some y->aO R.U q=true/\aO R.D (q / 64)=false)/\(x.u≠[]->yh Γ o.op=true)/\∀q∈x.k,H7 R.A i q=true/\aO R.D (q / 64)=true:=by
 obtain⟨_,_,h3⟩:=h;rcases h3 with⟨_,⟨_,_,p,v,δ,_,_,hn,hx⟩|⟨_,_,p,q,y,_,_,⟨h1,h2,h3⟩,hx⟩|⟨he,_,υ,_,hin,hx⟩|⟨⟨he,_⟩,hk,p,ρ,os,t,_,_,_,_,hres⟩⟩|⟨_,hx⟩
 .obtain⟨l1,l2,l3,l4⟩:=pW R.F ⟨x.d,v,[],δ,[]⟩;rw[← hx]at l2 l3 l4;exact⟨avL.2 λy hy=>avL.1 hn y (l4 y hy),(λq y hy=>by rw[l2]at hy;cases hy),(λhne=>(hne l2).elim),λq hq=>by rw[l3]at hq;cases hq⟩
 .obtain⟨l1,l2,l3,l4⟩:=pW R.F ⟨x.d,.sv (.one (.ref (x.d*64+1))),[],[(x.d*64+1,y)],[q]⟩;rw[← hx]at l2 l3 l4;refine⟨avL.2 λz hz=>?_,(λq y hy=>by rw[l2]at hy;cases hy),(λhne=>(hne l2).elim),λr hr=>?_⟩
  .have:=l4 z hz;have:z=(x.d*64+1,y):=by simpa using this
   rw[this];show Nat.beq ((x.d*64+1) / 64) x.d=true;rw[show(x.d*64+1) / 64=x.d from abn,awi]
  .rw[l3]at hr;have:r=q:=by simpa using hr
   rw[this];exact⟨h3,h1⟩
 .rw[hx];refine⟨rfl,λq y hy=>?_,(λ_=>he),λq hq=>by cases hq⟩;have:=avL.1 hin _ (xH _ _ _ hy);simpa using this
 .unfold Gg at hres;split at hres
  .next υ hnd hb=>
   simp only[avo]at hnd;split at hres
   .next hall=>simp only[Option.some.injEq,Prod.mk.injEq]at hres;obtain⟨_,e2,e3⟩:=hres;refine⟨by rw[← e3];exact hnd.2.2.2.1,λq y hy=>?_,(λ_=>he),λq hq=>by rw[hk]at hq;cases hq⟩;rw[← e2]at hy;have:=avL.1 hall _ (xH _ _ _ hy);simpa using this
   .cases hres
  .cases hres
 .rw[hx];exact⟨rfl,(λq y hy=>asK),(λhne=>(hne rfl).elim),λq hq=>by cases hq⟩
theorem abV:∀(l:List Oper)(i j:Nat)(o:Oper),l[j]? =some o->yh Γ o.op=true->i+j∈PU Γ i l
 |[],_,_,_,h,_=>amA
 |x::r,i,0,o,h,he=>by
  simp at h;subst h;rw[PU,he];simp
 |x::r,i,j+1,o,h,he=>by
  have:=abV r (i+1) j o acG he;rw[show i+1+j=i+(j+1)from abn]at this;rw[PU];cases yh Γ x.op
  .exact this
  .exact avy _ this
theorem Way.fits{R:Reg}{ops:Array Oper}{t0:Nat}{path:List dU}{L:Nat->Bool}{base:St}(W:Way R ops t0 path)(hle:t0<=ops.size)
 (hok:∀j o x,ops[j]? =some o->path[j]? =some x->L j=true->rF Θ Γ R base path j o x):Fits R.D R.U (pick path 0 L):=by
 have get:∀x∈pick path 0 L,∃j o,L j=true/\path[j]? =some x/\ops[j]? =some o:=λx hx=>by obtain⟨j,h1,h2⟩:=(kT _ _).1 hx;rw[avV]at h1;obtain⟨hj,_⟩:=avG.1 h2;have hlen:=W.len;exact⟨j,ops[j]' abn,h1,h2,acA⟩
 refine⟨λx hx y hy e=>?_,λx hx=>?_,λx hx=>?_,λx hx q z hz=>?_⟩
 .obtain⟨j,_,_,h2,_⟩:=get x hx;obtain⟨k,_,_,h3,_⟩:=get y hy;have:=W.apart j k x y h2 h3 e;subst this;rw[h2]at h3;exact Option.some.inj h3
 .obtain⟨j,_,_,h2,_⟩:=get x hx;exact W.aob x (awc h2)
 .obtain⟨j,o,h1,h2,h3⟩:=get x hx;exact(hok j o x h3 h2 h1).fit.1
 .obtain⟨j,o,h1,h2,h3⟩:=get x hx;exact(hok j o x h3 h2 h1).fit.2.1 q z hz
theorem Way.set{R:Reg}{ops:Array Oper}{t0:Nat}{path:List dU}{i:Nat}{x y:dU}(W:Way R ops t0 path)(hy:path[i]? =some y)(hd:x.d=y.d):Way R ops t0 (path.set i x):=by
 obtain⟨hi,_⟩:=avG.1 hy;have get:∀(j:Nat)(z:dU),(path.set i x)[j]? =some z->∃z',path[j]? =some z'/\z.d=z'.d:=λj z hz=>by
  by_cases e:j=i
  .subst e;rw[awM hi]at hz;cases hz;exact⟨y,hy,hd⟩
  .rw[awq (axl e)]at hz;exact⟨z,hz,rfl⟩
 refine⟨by simpa using W.len,λj o z ho hz=>?_,λz hz=>?_,λj k u v hu hv e=>?_,λj z hz=>?_⟩
 .obtain⟨z',h1,h2⟩:=get j z hz;rw[W.dst j o z' ho h1,h2]
 .obtain⟨j,hj⟩:=axM hz;obtain⟨z',h1,h2⟩:=get j z hj;rw[h2];exact W.aob z' (awc h1)
 .obtain⟨u',h1,h2⟩:=get j u hu;obtain⟨v',h3,h4⟩:=get k v hv;exact W.apart j k u' v' h1 h3 (by rw[← h2,← h4];exact e)
 .obtain⟨z',h1,h2⟩:=get j z hz;rw[h2];exact W.idx j z' h1
theorem aoc{G:jX}(hE:rD P G Θ Γ w0 M){ops:Array Oper}{Q:Exit->Act->World->Prop}{R:Reg}{t0:Nat}{path:List dU}{L L':Nat->Bool}{i:Nat}{o:Oper}
 (W:Way R ops t0 path) (hle:t0<=ops.size) (hit:i<t0)
 (hRn:R.n=st.n) (hDn:∀i o d,ops[i]? =some o->i<t0->o.dst=some d->d<st.n) (hgd:∀i o g b,ops[i]? =some o->i<t0->o.guard=some (g,b)->∃og d,ops[g]? =some og/\og.dst=some d) (hcmp:∀e∈R.E,D7 R.ms R.E e=true) (hEi:∀j o',ops[j]? =some o'->j<t0->yh Γ o'.op=true->j∈R.E)
 (hA:∀e q,H7 R.A e q=true->∃j,idxOf R.D (q / 64) 0=some j/\(R.ms.getD e 0).testBit j=true)
 (ho:ops[i]? =some o) (hen:Enabled Θ Γ R (bQ R.D st) path i o)
 (hok:∀j o x,ops[j]? =some o->path[j]? =some x->L j=true->rF Θ Γ R (bQ R.D st) path j o x)
 (hcl:∀j k,L j=true->(R.ms.getD j 0).testBit k=true->L k=true)
 (hsub:∀j,(R.ms.getD i 0).testBit j=true->L j=true) (hi:L i=false) (hi':L' i=true) (h:∀j,j≠i->L' j=L j)
 (hR:Rel w0 M T γ (after (bQ R.D st) path L) a w) {K:Act->World->Prop}
 (hK:∀x γ' a' w',(∃y,path[i]? =some y/\x.d=y.d)->rF Θ Γ R (bQ R.D st) (path.set i x) i o x->Rel w0 M T γ' (after (bQ R.D st) (path.set i x) L') a' w'->K a' w'):
 wpOp P ops Q i K a w:=by
 obtain⟨d,hd,hm,hcase⟩:=hen;have hlen:=W.len;have hil:i<path.length:=abn;have hy:path[i]? =some path[i]:=by simp[hil]
 have hyd:path[i].d=d:=by have:=W.dst i o _ ho hy;rw[hd]at this;exact(Option.some.inj this).symm
 have hdD:aO R.D d=true:=by rw[← hyd];exact W.aob _ (awc hy)
 have ag7:o.dst=some d\/(o.dst=none/\yU o.op=true/\st.n<=d):=by
  unfold rW at hd;split at hd
  .next e he=>cases hd;exact .inl he
  .next he=>
   split at hd
   .next hs=>cases hd;exact .inr ⟨he,hs,abn⟩
   .cases hd
 have hfit:=W.fits hle hok;have hne:∀y∈pick path 0 L,y.d≠d:=λy hy' e=>by obtain⟨j,h1,h2⟩:=(kT _ _).1 hy';rw[avV]at h1;have:=W.apart j i y _ h2 hy (by rw[hyd];exact e);subst this;rw[hi]at h1;cases h1
 have heff:∀j x,path[j]? =some x->x.u≠[]->L j=true->j∈R.E:=λj x hx hu hL=>by obtain⟨hj,_⟩:=avG.1 hx;have hoj:ops[j]? =some (ops[j]' abn):=acA;exact hEi j _ hoj abn ((hok j _ x hoj hx hL).fit.2.2.1 hu)
 have aku:D7 R.ms R.E i=true->∀j,j∈R.E->L j=true->(R.ms.getD i 0).testBit j=true:=λhc j hjE hL=>by
  have:=avL.1 hc j hjE;rw[awC,awC]at this;rcases this with g|g|g
  .have:=avs g;subst this;rw[hi]at hL;cases hL
  .exact g
  .have:=hcl j i hL g;rw[hi]at this;cases this
 have hmore:(viewAt R (bQ R.D st) path i).more (after (bQ R.D st) path L):=
  ajH hfit hsub W.idx hi (λk hk=>by
   cases hb:(R.ms.getD k 0).testBit i with
   |false=>rfl
   |true=>have:=hcl k i hk hb;rw[hi]at this;cases this) (λhc j x hx hu hL=>aku hc j (heff j x hx hu hL) hL) λe x hx hL q hq=>by obtain⟨hj,_⟩:=avG.1 hx;have hoj:ops[e]? =some (ops[e]' abn):=acA;exact((hok e _ x hoj hx hL).fit.2.2.2 q hq).1
 have arI:∀q,aO (ny (pick path 0 L)) q=true->aO R.D (q / 64)=true/\q / 64≠d:=λq hq=>by obtain⟨x,hx,hxq⟩:=(nM _).1 hq;obtain⟨e,h1,h2⟩:=(kT _ _).1 hx;rw[avV]at h1;obtain⟨hj,_⟩:=avG.1 h2;have hoj:ops[e]? =some (ops[e]' abn):=acA;have hf:=(hok e _ x hoj h2 h1).fit.2.2.2 q hxq;refine⟨hf.2,λe2=>?_⟩;obtain⟨j,g1,g2⟩:=hA e q hf.1;have:=W.idx i _ hy;rw[hyd,← e2,g1]at this;cases this;have:=hcl e i h1 g2;rw[hi]at this;cases this
 have hnone:∀q,q / 64=d->(after (bQ R.D st) path L).ah q=none:=λq hq=>by
  have hqD:aO R.D (q / 64)=true:=by rw[hq];exact hdD
  have hP:(lH (bQ R.D st) (pick path 0 L)).ah q=none:=by
   unfold lH;dsimp only;rw[CZ _ λy hy'=>by
    cases hl:look y.u q with
    |none=>rfl
    |some z=>have:=(hfit.upd y hy' q z hl).2;rw[hqD]at this;cases this]
   dsimp only;rw[J4 _ λy hy'=>by
    cases hl:look y.δ q with
    |none=>rfl
    |some z=>exact(hne y hy' ((sK (hfit.new y hy') hl).symm.trans hq)).elim]
   exact afE hqD
  unfold after;rw[mF];simp only[St.kill,hP,axf];cases aO (ny (pick path 0 L)) q<;>rfl
 have hself:∀x:dU,∀j,(R.ms.getD i 0).testBit j=true->path[j]? =(path.set i x)[j]? :=λx j hj=>by
  by_cases e:i=j
  .subst e;rw[oJ hm (avt _)]at hj;cases hj
  .rw[awq e]
 have fin:∀(x:dU)(γ':Nat->Value)(w':World)(u:Value),x.d=d->(o.dst=none->x.v=.mJ [])->(∀q y,look x.u q=some y->aO R.U q=true/\aO R.D (q / 64)=false)->CY x.d x.δ=true->(x.u≠[]->i∈R.E)->(∀q∈x.k,aO R.D (q / 64)=true/\q / 64≠d)->
  rF Θ Γ R (bQ R.D st) path i o x->Rel w0 M T γ' (((sH x.k (after (bQ R.D st) path L)).adds x.u).adds x.δ) a w'->aT (aj w0 T γ' (((sH x.k (after (bQ R.D st) path L)).adds x.u).adds x.δ) w') x.v u->K (a.put o.dst u) w':=by
  intro x γ' w' u hxd hxv hxu hxn hxE hxk Gi hR' hv;have hn2:(((sH x.k (after (bQ R.D st) path L)).adds x.u).adds x.δ).n=st.n:=by rw[(E5 _ _).2,(E5 _ _).2,mF];unfold after;rw[mF];rfl
  have aqR:∀q,aO (ny (pick (path.set i x) 0 L')) q=true->aO R.D (q / 64)=true/\q / 64≠d:=λq hq=>by
   obtain⟨y,hy1,hyq⟩:=(nM _).1 hq;obtain⟨e,h1,h2⟩:=(kT _ _).1 hy1;rw[avV]at h1;by_cases PY:e=i
   .subst PY;rw[awM hil]at h2;cases h2;exact hxk q hyq
   .rw[awq (axl PY)]at h2;rw[h e PY]at h1;exact arI q ((nM _).2 ⟨y,(kT _ _).2 ⟨e,by rw[avV];exact h1,h2⟩,hyq⟩)
  have alH:∀q,aO (ny (pick (path.set i x) 0 L')) q=true->(((sH x.k (after (bQ R.D st) path L)).adds x.u).adds x.δ).ah q=none:=λq hq=>by
   obtain⟨g1,g2⟩:=aqR q hq;rw[mV,mV];have hδq:look x.δ q=none:=by
    cases hl:look x.δ q with
    |none=>rfl
    |some z=>exact(g2 ((sK hxn hl).trans hxd)).elim
   have huq:look x.u q=none:=by
    cases hl:look x.u q with
    |none=>rfl
    |some z=>have:=(hxu q z hl).2;rw[g1]at this;cases this
   rw[hδq,huq];dsimp only;rw[mF];unfold after;rw[mF];obtain⟨y,hy1,hyq⟩:=(nM _).1 hq;obtain⟨e,h1,h2⟩:=(kT _ _).1 hy1;rw[avV]at h1;by_cases PY:e=i
   .subst PY;rw[awM hil]at h2;cases h2;simp only[St.kill,sJ.2 hyq]
   .rw[awq (axl PY)]at h2;rw[h e PY]at h1;have:=(nM (o:=q) (pick path 0 L)).2 ⟨y,(kT _ _).2 ⟨e,by rw[avV];exact h1,h2⟩,hyq⟩;simp only[St.kill,this,axf];cases aO x.k q<;>rfl
  have hset:Rel w0 M T γ' (St.set (((sH x.k (after (bQ R.D st) path L)).adds x.u).adds x.δ) x.d x.v) (a.put o.dst u) w':=by
   rcases ag7 with hs|⟨hs,_,hs2⟩
   .rw[hs,← hxd];exact hR'.set x.d (by rw[hn2,hxd];exact hDn i o d ho hit hs) x.v u hv
   .rw[hs];exact hR'.aqP x.d (by rw[hn2,hxd];exact hs2) x.v (hxv hs)
  have W':Way R ops t0 (path.set i x):=W.set hy (by rw[hxd,hyd]);have arJ:Fits R.D R.U (pick (path.set i x) 0 L'):=by
   refine W'.fits (Θ:=Θ) (Γ:=Γ) (base:=bQ R.D st) hle λj o' z ho' hz hL=>?_;by_cases e:j=i
   .subst e;rw[awM hil]at hz;cases hz;rw[ho]at ho';cases ho';exact Gi.agree (hself x)
   .rw[awq (axl e)]at hz;rw[h j e]at hL;refine(hok j o' z ho' hz hL).agree λk hk=>?_;have hLk:=hcl j k hL hk;have hki:i≠k:=λe=>by subst e;rw[hi]at hLk;cases hLk
    rw[awq hki]
  rw[alC hil hi hi' h arJ (λy hy'=>by rw[hxd];exact hne y hy') (λhu j y hj hL hy'=>by
   refine awL λhyu=>?_;have hjE:=heff j y hy' hyu hL;have:=aku (hcmp i (hxE hu)) j hjE hL;rw[oJ hm (aym hj)]at this;cases this) (AV.uD alH _ _ hv) (λq y hq=>by
   have o6:(((sH x.k (after (bQ R.D st) path L)).adds x.u).adds x.δ).ah q=some y:=by
    rw[mV,mV];rcases hq with hq|hq
    .rw[hq]
    .have:look x.δ q=none:=by
      cases hl:look x.δ q with
      |none=>rfl
      |some z=>have h1:=(hxu q y hq).2;rw[(sK hxn hl).trans hxd,hdD]at h1;cases h1
     rw[this,hq]
   refine⟨?_,aB.uD alH y (hR'.ah q y o6)⟩;cases hb:aO (ny (pick (path.set i x) 0 L')) q with
   |false=>rfl
   |true=>rw[alH q hb]at o6;cases o6)]at hset
  exact hK x γ' _ _ ⟨_,hy,by rw[hxd,hyd]⟩ (Gi.agree (hself x)) hset
 have fin2:∀(x:dU)(γ':Nat->Value)(w':World)(u:Value),x.d=d->x.u=[]->(o.dst=none->False)->CY x.d x.δ=true->(∀q∈x.k,aO R.D (q / 64)=true/\q / 64≠d)->
  rF Θ Γ R (bQ R.D st) path i o (oH R.F x)->Rel w0 M T γ' (((sH x.k (after (bQ R.D st) path L)).adds []).adds x.δ) a w'->aT (aj w0 T γ' (((sH x.k (after (bQ R.D st) path L)).adds []).adds x.δ) w') x.v u->K (a.put o.dst u) w':=by
  intro x γ' w' u hxd hxu hno hxn hxk Gi hR' hv;obtain⟨l1,l2,l3,l4⟩:=pW R.F x;refine fin (oH R.F x) γ' w' u (l1.trans hxd) (λh=>(hno h).elim) (λq y hy=>by rw[l2,hxu]at hy;cases hy) (avL.2 λy hy=>by rw[l1];exact avL.1 hxn y (l4 y hy)) (λhne=>(hne (l2.trans hxu)).elim) (by rw[l3];exact hxk) Gi ?_ ?_
  all_goals
   rw[l3,l2,hxu];unfold oH;split
   .next q q' e r l fr _ hv2 hu2 hδ=>
    split
    .next hb=>
     have e1:=avs hb;subst e1;rw[hδ]at hR' hv hxn;rw[hv2]at hv;have hqd:q / 64=d:=by have:=avs (avL.1 hxn _ avA);exact this.trans hxd
     have hq0:(sH x.k (after (bQ R.D st) path L)).ah q=none:=by rw[mF];simp only[St.kill,hnone q hqd,axf];cases aO x.k q<;>rfl
     have:=aoa (hR.sH x.k) hq0 hR' hv
     first|exact this.1|exact this.2
    .first|exact hR'|exact hv
   .first|exact hR'|exact hv
 have hgv:∀g b y,o.guard=some (g,b)->(R.ms.getD i 0).testBit g=true->path[g]? =some y->∃og,ops[g]? =some og/\og.dst=some y.d/\∃u,a.tmps[y.d]? =some u/\aT (aj w0 T γ (after (bQ R.D st) path L) w) (y.v.kill (aO (ny (pick path 0 L)))) u:=by
  intro g b y hgo hg hy';obtain⟨hgl,_⟩:=avG.1 hy';have hog:ops[g]? =some (ops[g]' abn):=acA;have aqS:(ops[g]' abn).dst=some y.d:=by obtain⟨og,e,h1,h2⟩:=hgd i o g b ho hit hgo;rw[hog]at h1;cases h1;have:=W.dst g _ y hog hy';unfold rW at this;rw[h2]at this;rw[h2];exact this
  have hyD:y.d<st.n:=hDn g _ _ hog abn aqS;have hin:y∈pick path 0 L:=(kT _ _).2 ⟨g,by rw[avV];exact hsub g hg,hy'⟩;have htm:(after (bQ R.D st) path L).tmps y.d=y.v.kill (aO (ny (pick path 0 L))):=by unfold after;rw[mF];show(yg (pick path 0 L) y.d _).kill _=_;rw[NJ _ hin λz hz e=>hfit.one y hin z hz e]
  have hr1:=hR.tmps y.d;rw[htm]at hr1;have hsz:y.d<a.tmps.size:=by rw[hR.size];unfold after;rw[mF];exact hyD
  refine⟨_,hog,aqS,a.tmps[y.d],acA,?_⟩;simpa[Array.getD,hsz]using hr1
 unfold wpOp;simp only[ho];rcases hcase with⟨hw,hcase⟩|hun
 .have hwant:Region.wanted o (yielded ops a.tmps)=true:=by
   rcases hw with e|⟨g,b,y,e1,e2,e3,e4⟩
   .unfold Region.wanted;rw[e]
   .obtain⟨og,k1,k2,u,k3,k4⟩:=hgv g b y e1 e2 e3;rw[e4]at k4;have k4:u=.bool b:=k4;subst k4;unfold Region.wanted;rw[e1];simp[yielded,k1,k2,k3]
  rw[if_pos hwant];left;rcases hcase with⟨he,ha,p,v,δ,hcalm,hp,hn⟩|⟨he,ha,p,q,y,happ,hp,hq1,hq2,hq3⟩|⟨he,hst,υ,hυ,hin⟩|⟨⟨he,hst⟩,p,ρ,os,hrel,hp,hall⟩
  .obtain⟨v',hc',hless⟩:=amu hmore d o.op hcalm;have hfr:jJ (after (bQ R.D st) path L) δ=true:=by refine avL.2 λz hz=>?_;rw[hnone z.1 (avs (avL.1 hn z hz))];rfl
   refine JM hE hR o hc' hp hfr ?_;intro u γ' w' hR' hv';have hvx:aT (aj w0 T γ' ((after (bQ R.D st) path L).adds δ) w') v u:=by
    rcases hless with e|e
    .rw[e];trivial
    .rw[← e];exact hv'
   have Gi:rF Θ Γ R (bQ R.D st) path i o (oH R.F ⟨d,v,[],δ,[]⟩):=by obtain⟨l1,_⟩:=pW R.F ⟨d,v,[],δ,[]⟩;refine⟨by rw[l1];exact hd,hm,.inl ⟨hw,.inl ⟨he,ha,p,v,δ,by rw[l1];exact hcalm,hp,by rw[l1];exact hn,by rw[l1]⟩⟩⟩
   exact fin2 ⟨d,v,[],δ,[]⟩ γ' w' u rfl rfl (λh=>by
    rcases ag7 with hs|⟨_,hs,_⟩
    .rw[h]at hs;cases hs
    .rw[afH hs]at he;cases he) hn (λq hq=>by cases hq) Gi hR' hvx
  .have arK:=ajB hmore happ;have Gi:rF Θ Γ R (bQ R.D st) path i o (oH R.F ⟨d,.sv (.one (.ref (d*64+1))),[],[(d*64+1,y)],[q]⟩):=by obtain⟨l1,_⟩:=pW R.F ⟨d,.sv (.one (.ref (d*64+1))),[],[(d*64+1,y)],[q]⟩;refine⟨by rw[l1];exact hd,hm,.inl ⟨hw,.inr (.inl ⟨he,ha,p,q,y,happ,hp,by rw[l1];exact⟨hq1,hq2,hq3⟩,by rw[l1]⟩)⟩⟩
   have hkq:∀s:St,s.kill (aO [q])=s.kill (Nat.beq q ·):=λs=>by
    rw[show aO [q]=(Nat.beq q ·)from funext λo=>by
     simp only[aO];cases h1:Nat.beq o q with
     |true=>rw[avs h1,awi]
     |false=>
      cases h2:Nat.beq q o with
      |false=>rfl
      |true=>rw[avs h2,awi]at h1;cases h1]
   refine amC hE hR o (n:=d*64+1) arK hp (hnone (d*64+1) (apV d)) λu γ' w' hR' hv=>?_;rw[← hkq]at hR' hv;exact fin2 ⟨d,.sv (.one (.ref (d*64+1))),[],[(d*64+1,y)],[q]⟩ γ' w' u rfl rfl (λh=>by
    rcases ag7 with hs|⟨_,hs,_⟩
    .rw[h]at hs;cases hs
    .rw[afH hs]at he;cases he) (by show(Nat.beq ((d*64+1) / 64) d&&true)=true;rw[show(d*64+1) / 64=d from abn,awi];rfl)
    (λr hr=>by rw[show r=q by simpa using hr];exact⟨hq1,hq2⟩) Gi hR' hv
  .have Gi:rF Θ Γ R (bQ R.D st) path i o ⟨d,.mJ [],υ,[],[]⟩:=⟨hd,hm,.inl ⟨hw,.inr (.inr (.inl ⟨he,hst,υ,hυ,hin,rfl⟩))⟩⟩;obtain⟨f1,f2,f3,_⟩:=Gi.fit;refine aec hE hR hmore o hυ λγ' w' hR'=>?_;exact fin ⟨d,.mJ [],υ,[],[]⟩ γ' w' undef rfl (λ_=>rfl) f2 f1 (λ_=>hEi i o ho hit he) (λq hq=>by cases hq) Gi hR' ⟨#[],rfl,trivial⟩
  .refine ah4 hE hR hmore o hrel hp hnone hall λt v υ δ u γ' w' ht hres hR' hv=>?_;have Gi:rF Θ Γ R (bQ R.D st) path i o ⟨d,v,υ,δ,[]⟩:=⟨hd,hm,.inl ⟨hw,.inr (.inr (.inr ⟨⟨he,hst⟩,rfl,p,ρ,os,t,hrel,hp,ht,hall,hres⟩))⟩⟩;obtain⟨f1,f2,f3,_⟩:=Gi.fit;exact fin ⟨d,v,υ,δ,[]⟩ γ' w' u rfl (λh=>by
    rcases ag7 with hs|⟨_,hs,_⟩
    .rw[h]at hs;cases hs
    .rw[hst]at hs;cases hs) f2 f1 (λ_=>hEi i o ho hit he) (λq hq=>by cases hq) Gi hR' hv
 .have hwant:Region.wanted o (yielded ops a.tmps)=false:=by
   obtain⟨g,b,y,e1,e2,e3,e4⟩:=hun;obtain⟨og,k1,k2,u,k3,k4⟩:=hgv g b y e1 e2 e3;unfold Region.wanted;rw[e1];rcases e4 with⟨c,e4,hne'⟩|⟨vs,e4⟩
   .rw[e4]at k4;have k4:u=.bool c:=k4;subst k4;cases c<;>cases b<;>first|(exact(hne' rfl).elim)|simp[yielded,k1,k2,k3]
   .rw[e4]at k4;obtain⟨us,rfl,_⟩:=k4;simp[yielded,k1,k2,k3]
  rw[if_neg (by rw[hwant];simp)];exact fin (skipped d) γ w undef rfl (λ_=>rfl) (λq y hy=>asK) rfl (λhu=>(hu rfl).elim) (λq hq=>by cases hq) ⟨hd,hm,.inr ⟨hun,rfl⟩⟩ hR ⟨#[],rfl,trivial⟩
theorem fill{G:jX}(hE:EnvB P G Θ Γ){R:Reg}{base:St}{front:List Oper}{path:List dU}{L:Nat->Bool}
 (Rx:∀ext:List dU,aaf Θ Γ R base front ext->∀o,front[ext.length]? =some o->Enabled Θ Γ R base ext ext.length o)
 (hok:∀j o x,front[j]? =some o->path[j]? =some x->L j=true->rF Θ Γ R base path j o x) (hlen:path.length=front.length)
 (hcl:∀j k,L j=true->(R.ms.getD j 0).testBit k=true->L k=true):
 ∀n,n<=front.length->∃ext:List dU,ext.length=n/\aaf Θ Γ R base front ext/\∀j,j<n->L j=true->ext[j]? =path[j]? :=by
 intro n
 induction n with
 |zero=>exactλ_=>⟨[],rfl,(λi o x _ hx=>by simp at hx),(λj hj=>abn)⟩
 |succ n ih=>
  intro hn;obtain⟨ext,h1,h2,h3⟩:=ih abn;have ho:front[n]? =some (front[n]' abn):=acA;have more:∀x:dU,rF Θ Γ R base (ext++[x]) n (front[n]' abn) x->aaf Θ Γ R base front (ext++[x]):=by
   intro x hx i o y hi hy;rcases avN i n with hlt|hge
   .rw[zW abn]at hy;have:=h2 i o y hi hy;refine this.agree λj hj=>?_;have:j<i:=by
     rcases avN j i with h|h
     .exact h
     .rw[oJ this.2.1 h]at hj;cases hj
    rw[zW abn]
   .have:i=n:=by obtain⟨hi',_⟩:=avG.1 hy;simp at hi';omega
    subst this;rw[ho]at hi;cases hi;have e:y=x:=by rw[← h1]at hy;simpa using hy.symm
    rw[e];exact hx
  cases hL:L n with
  |true=>
   have hp:path[n]? =some (path[n]' abn):=acA;have hx:=hok n _ _ ho hp hL;have hag:∀j,(R.ms.getD n 0).testBit j=true->path[j]? =(ext++[path[n]' abn])[j]? :=λj hj=>by
    have hjn:j<n:=by
     rcases avN j n with h|h
     .exact h
     .rw[oJ hx.2.1 h]at hj;cases hj
    rw[zW abn,h3 j hjn (hcl n j hL hj)]
   refine⟨ext++[path[n]' abn],by simp[h1],more _ (hx.agree hag),λj hj hLj=>?_⟩;by_cases e:j=n
   .subst e;rw[hp,av1 abn];simp[h1]
   .rw[zW abn];exact h3 j abn hLj
  |false=>
   have hen:=Rx ext h2 _ (by rw[h1];exact ho);rw[h1]at hen;have hag:∀x:dU,(∃d,rW R.n n (front[n]' abn)=some d/\R.ms.getD n 0<2 ^ n)->∀j,(R.ms.getD n 0).testBit j=true->ext[j]? =(ext++[x])[j]? :=λx⟨_,_,hm⟩ j hj=>by
    have hjn:j<n:=by
     rcases avN j n with h|h
     .exact h
     .rw[oJ hm h]at hj;cases hj
    rw[zW abn]
   obtain⟨d,hd,hm,hc⟩:=hen;have hx:∃x,rF Θ Γ R base ext n (front[n]' abn) x:=by
    rcases hc with⟨hw,⟨he,ha,p,v,δ,hcalm,hp,hnm⟩|⟨he,ha,p,q,y,happ,hp,hq⟩|⟨he,hst,υ,hυ,hin⟩|⟨⟨he,hst⟩,p,ρ,os,hrel,hp,hall⟩⟩|hun
    .exact⟨oH R.F ⟨d,v,[],δ,[]⟩,by rw[(pW _ _).1];exact hd,hm,.inl ⟨hw,.inl ⟨he,ha,p,v,δ,by rw[(pW _ _).1];exact hcalm,hp,by rw[(pW _ _).1];exact hnm,by rw[(pW _ _).1]⟩⟩⟩
    .exact⟨oH R.F ⟨d,.sv (.one (.ref (d*64+1))),[],[(d*64+1,y)],[q]⟩,by rw[(pW _ _).1];exact hd,hm,.inl ⟨hw,.inr (.inl ⟨he,ha,p,q,y,happ,hp,by rw[(pW _ _).1];exact hq,by rw[(pW _ _).1]⟩)⟩⟩
    .exact⟨⟨d,.mJ [],υ,[],[]⟩,hd,hm,.inl ⟨hw,.inr (.inr (.inl ⟨he,hst,υ,hυ,hin,rfl⟩))⟩⟩
    .have hne:∃t,ρ.R t:=by
      unfold PV at hrel;split at hrel
      case h_2=>cases hrel
      next f args pV hop=>
      split at hrel
      case h_2=>cases hrel
      next ms con hcon=>
      split at hrel
      case h_2=>cases hrel
      next vs os' VI=>
      split at hrel
      case h_2=>cases hrel
      split at hrel
      case h_2=>cases hrel
      next q ρ' hq=>
      cases hrel;exact((hE.ag1 f ms con hcon).1 vs _ ρ hq hp).1
     obtain⟨t,ht⟩:=hne;obtain⟨⟨v,υ,δ⟩,hres⟩:=hall t ht;exact⟨⟨d,v,υ,δ,[]⟩,hd,hm,.inl ⟨hw,.inr (.inr (.inr ⟨⟨he,hst⟩,rfl,p,ρ,os,t,hrel,hp,ht,hall,hres⟩))⟩⟩
    .exact⟨skipped d,hd,hm,.inr ⟨hun,rfl⟩⟩
   obtain⟨x,hx⟩:=hx;refine⟨ext++[x],by simp[h1],more x (hx.agree (hag x ⟨d,hd,hm⟩)),λj hj hLj=>?_⟩;have:j≠n:=λe=>by subst e;rw[hL]at hLj;cases hLj
   rw[zW abn];exact h3 j abn hLj
end Go.Fw
namespace Go.Fw
open Go
variable {P:Program}
def handsOn(o:Oper):Option Operand:=match o.op,o.guard with
 |.move x,none=>some x
 |.extract x _,none=>some x
 |_,_=>none
def Operand.LD(d:Nat):Operand->Bool
 |.tmp t=>!(Nat.beq t d)
 |_=>true
def aag(d:Nat)(o:Oper):Bool:=match o.op,o.guard with
 |.move x,none|.assign x,none|.extract x _,none=>Operand.LD d x
 |.store _ a x,none=>Operand.LD d a&&Operand.LD d x
 |_,_=>false
def passes(f o:Oper):Bool:=match handsOn f,f.dst with
 |some x,some d=>aag d o&&(match o.dst with|some e=>!(Nat.beq e d)&&Operand.LD e x|none=>true)
 |_,_=>false
theorem eval_put_ne{a:Act}{d:Option Tmp}{v:Value}{x:Operand}(h:∀e,d=some e->Operand.LD e x=true):(a.put d v).eval x=a.eval x:=by
 cases d with
 |none=>rfl
 |some e=>
  cases x with
  |tmp t=>
   have:=h e rfl;have hne:e≠t:=λh=>by subst h;simp[Operand.LD]at this
   show(a.tmps.setIfInBounds e v).getD t undef=a.tmps.getD t undef;simp only[axp];rw[ayg hne]
  |const _=>rfl
  |global _=>rfl
  |func _=>rfl
theorem put_comm{a:Act}{d e:Option Tmp}{u v:Value}(h:∀x y,d=some x->e=some y->x≠y):(a.put d u).put e v=(a.put e v).put d u:=by
 cases d with
 |none=>rfl
 |some x=>cases e with
  |none=>rfl
  |some y=>have:=h x y rfl rfl;simp only[Act.put];rw[Array.setIfInBounds_comm _ _ this]
theorem ah5{f:Oper}{x:Operand}(hf:handsOn f=some x):f.guard=none/\
 ((∃g:Value->Option Value,(∀b:Act,∀w',(match g (b.eval x)with|some u=>(execOp b.eval f).run P w'=.ok (.value u) w'|none=>∃m,(execOp b.eval f).run P w'=m/\∀next Q,¬f.upon P b next Q m)))):=by
 unfold handsOn at hf;split at hf
 .next y hop hg=>cases hf;exact⟨hg,λv=>some v,λb w'=>agl⟩
 .next y ix hop hg=>
  cases hf;refine⟨hg,λv=>match v with|.tuple vs=>vs[ix]? |_=>none,λb w'=>?_⟩;cases hv:b.eval x with
  |tuple vs=>
   simp only;cases hq:vs[ix]? with
   |some u=>simp[execOp,hop,hv,Instr.extract,hq]
   |none=>
    refine⟨_,rfl,λnext Q=>?_⟩;simp[execOp,hop,hv,Instr.extract,hq,stuck,Oper.upon]
  |_=>refine⟨_,rfl,λnext Q=>?_⟩;simp[execOp,hop,hv,Instr.extract,stuck,Oper.upon]
 .cases hf
theorem agx{d:Nat}{o:Oper}(h:aag d o=true):o.guard=none/\
 (∀(a:Act)(v:Value),execOp (a.put (some d) v).eval o=execOp a.eval o)/\
 (∀(a:Act)(w:World),(∃v w',(execOp a.eval o).run P w=.ok (.value v) w')\/(∃w',(execOp a.eval o).run P w=.ok .skip w')\/∃x w',(execOp a.eval o).run P w=.halt x w'):=by
 unfold aag at h;have ev:∀(a:Act)(v:Value)(x:Operand),Operand.LD d x=true->(a.put (some d) v).eval x=a.eval x:=λa v x hx=>eval_put_ne λe he=>by cases he;exact hx
 split at h
 .next x hop hg=>
  refine⟨hg,λa v=>?_,λa w=>.inl ⟨a.eval x,w,?_⟩⟩
  .simp only[execOp,hop,ev a v x h]
  .simp[execOp,hop]
 .next x hop hg=>
  refine⟨hg,λa v=>?_,λa w=>.inl ⟨a.eval x,w,?_⟩⟩
  .simp only[execOp,hop,ev a v x h]
  .simp[execOp,hop]
 .next x ix hop hg=>
  refine⟨hg,λa v=>?_,λa w=>?_⟩
  .simp only[execOp,hop,ev a v x h]
  .cases hr:(Instr.extract (a.eval x) ix).run P w with
   |ok u w'=>exact .inl ⟨u,w',aqZ⟩
   |halt u w'=>exact .inr (.inr ⟨u,w',aqZ⟩)
 .next t b x hop hg=>
  rw[avo]at h;refine⟨hg,λa v=>?_,λa w=>?_⟩
  .simp only[execOp,hop,ev a v b h.1,ev a v x h.2]
  .cases hr:(Instr.storeAt t (a.eval b) (a.eval x)).run P w with
   |ok u w'=>exact .inr (.inl ⟨w',aqZ⟩)
   |halt u w'=>exact .inr (.inr ⟨u,w',aqZ⟩)
 .cases h
def stepW(P:Program)(ops:Array Oper)(Q:Exit->Act->World->Prop)(o:Oper)(K:Act->World->Prop)(a:Act)(w:World):Prop:=
 if Region.wanted o (yielded ops a.tmps)then o.wp P a w K Q\/(o.asks P a w/\LetsOut Q)else K (a.put o.dst undef) w
theorem Ry{ops:Array Oper}{Q:Exit->Act->World->Prop}{o:Oper}{K K':Act->World->Prop}{a:Act}{w:World}(h:∀a w,K a w->K' a w)(hs:stepW P ops Q o K a w):stepW P ops Q o K' a w:=by
 unfold stepW at*;split
 .next hw=>rw[if_pos hw]at hs;exact hs.imp (Oper.wp_mono h) id
 .next hw=>rw[if_neg hw]at hs;exact h _ _ hs
theorem J5{ops:Array Oper}{Q:Exit->Act->World->Prop}(hO:¬LetsOut Q){o:Oper}(hg:o.guard=none){K:Act->World->Prop}{a:Act}{w:World}:stepW P ops Q o K a w↔o.wp P a w K Q:=by
 have hw:Region.wanted o (yielded ops a.tmps)=true:=by simp[Region.wanted,hg]
 unfold stepW;rw[if_pos hw];exact⟨λh=>h.elim id λh=>(hO h.2).elim,.inl⟩
theorem alI{ops:Array Oper}{Q:Exit->Act->World->Prop}(hQ:∀c a w,¬Q (.panic c) a w)(hO:¬LetsOut Q){f o:Oper}(h:passes f o=true){K:Act->World->Prop}{a:Act}{w:World}
 (hs:stepW P ops Q f (stepW P ops Q o K) a w):stepW P ops Q o (stepW P ops Q f K) a w:=by
 unfold passes at h;split at h
 .next x d hx hd=>
  rw[avo]at h;obtain⟨hp,hde⟩:=h;obtain⟨hgf,g,hg⟩:=ah5 (P:=P) hx;obtain⟨hgo,hsame,hout⟩:=agx (P:=P) hp;rw[J5 hO hgf]at hs;rw[J5 hO hgo];have hxo:∀(v:Value),(a.put o.dst v).eval x=a.eval x:=λv=>eval_put_ne λe he=>by rw[he]at hde;simp only[avo]at hde;exact hde.2
  have hcomm:∀(u v:Value),(a.put f.dst u).put o.dst v=(a.put o.dst v).put f.dst u:=λu v=>put_comm λx y hx hy=>by rw[hd]at hx;cases hx;rw[hy]at hde;simp only[avo,aw5]at hde;intro e;subst e;simp at hde
  have h0:=hg a w;cases hga:g (a.eval x)with
  |none=>
   rw[hga]at h0;obtain⟨m,hm,hno⟩:=h0;unfold Oper.wp at hs;rw[hm]at hs;exact(hno _ _ hs).elim
  |some u=>
   rw[hga]at h0;simp only at h0;unfold Oper.wp at hs;rw[h0]at hs;have hs:stepW P ops Q o K (a.put f.dst u) w:=hs;rw[J5 hO hgo]at hs;unfold Oper.wp at hs ⊢;rw[hd,hsame]at hs;rw[← hd]at hs;have again:∀(v:Value)(w':World),K ((a.put f.dst u).put o.dst v) w'->stepW P ops Q f K (a.put o.dst v) w':=by intro v w' hK;rw[J5 hO hgf];have h1:=hg (a.put o.dst v) w';rw[hxo,hga]at h1;simp only at h1;unfold Oper.wp;rw[h1];show K _ _;rw[← hcomm];exact hK
   rcases hout a w with⟨v,w',hr⟩|⟨w',hr⟩|⟨y,w',hr⟩
   .rw[hr]at hs ⊢;exact again v w' hs
   .rw[hr]at hs ⊢;exact again undef w' hs
   .rw[hr]at hs;cases y<;>simp only[Oper.upon]at hs;exact(hQ _ _ _ hs).elim
 .cases h
def Gj(P:Program)(ops:Array Oper)(Q:Exit->Act->World->Prop)(K:Act->World->Prop):List Oper->Act->World->Prop
 |[]=>K
 |o::r=>stepW P ops Q o (Gj P ops Q K r)
theorem Zj{ops:Array Oper}{Q:Exit->Act->World->Prop}:∀(l:List Oper),Gj P ops Q (Q .normal) l=wpList P ops Q l
 |[]=>rfl
 |o::r=>by
  funext a w
  rw[Gj,Zj r];rfl
theorem aah{ops:Array Oper}{Q:Exit->Act->World->Prop}(hQ:∀c a w,¬Q (.panic c) a w)(hO:¬LetsOut Q){o:Oper}{K:Act->World->Prop}(B:List Oper):
 ∀(A:List Oper)(a:Act)(w:World),(∀f∈A,passes f o=true)->Gj P ops Q K (A++o::B) a w->stepW P ops Q o (Gj P ops Q K (A++B)) a w
 |[],_,_,_,hs=>hs
 |f::A,a,w,h,hs=>by have hs:stepW P ops Q f (Gj P ops Q K (A++o::B)) a w:=hs;exact alI hQ hO (h f avA) (Ry (λa w h'=>aah hQ hO B A a w (λf hf=>h f (avy _ hf)) h') hs)
theorem wpOp_step{ops:Array Oper}{Q:Exit->Act->World->Prop}{i:Nat}{o:Oper}(ho:ops[i]? =some o){K:Act->World->Prop}{a:Act}{w:World}:wpOp P ops Q i K a w↔stepW P ops Q o K a w:=by unfold wpOp stepW;simp only[ho]
theorem V3{ops:Array Oper}{listed:Array Bool}(hcl:∀i j,listed.getD i false=true->((masks ops.toList []).getD i 0).testBit j=true->listed.getD j false=true){i:Nat}{o:Oper}(ho:ops[i]? =some o)
 (hi:i∈Region.ready .any ops listed) (j:Nat) (hj:((masks ops.toList []).getD i 0).testBit j=true):listed.getD j false=true:=by
 obtain⟨o',ho',hn,hall⟩:=Cb.1 hi;rw[ho]at ho';cases ho';obtain⟨e,he,hb,hej⟩:=amR (ops:=ops.toList) (i:=i) (o:=o) aq7 hj;rcases hej with rfl|h
 .exact hall e he hb
 .exact hcl e.on j (hall e he hb) h
theorem aod{ops:Array Oper}{Q:Exit->Act->World->Prop}(hQ:∀c a w,¬Q (.panic c) a w)(hO:¬LetsOut Q){t0:Nat}{S:Nat->Prop}
 (hfl:∀i o j f,ops[i]? =some o->ops[j]? =some f->j<i->t0<=i\/(S i/\S j)->((masks ops.toList []).getD i 0).testBit j=true\/(S j/\passes f o=true)) (hS:∀j,S j->j<t0)
 (hlt:∀i o,ops[i]? =some o->(masks ops.toList []).getD i 0<2 ^ i):
 ∀(fuel:Nat)(F:List (Nat×Oper))(l:List Oper)(k:Nat)(listed:Array Bool)(a:Act)(w:World),t0<=k->k<=ops.size->(∀j,l[j]? =ops[k+j]?)->listed.size=ops.size->
  (∀x∈F,ops[x.1]? =some x.2/\S x.1)->F.Pairwise (λx y=>x.1<y.1)->
  (∀i,i<ops.size->(listed.getD i false=true↔i<k/\∀x∈F,x.1≠i))->
  (∀i j,listed.getD i false=true->((masks ops.toList []).getD i 0).testBit j=true->listed.getD j false=true)->
  F.length+ops.size<=k+fuel->Gj P ops Q (Q .normal) (F.map (·.2)++l) a w->wpAny P .any ops Q fuel listed a w:=by
 intro fuel;have amW:∀{i:Nat}{o:Oper},ops[i]? =some o->∀e∈o.after,Region.binds .any e=true->e.on<i:=by
  intro i o ho e he hb;have abW:=afC (ops:=ops.toList) (i:=i) (o:=o) aq7 he hb;rcases avN e.on i with h|h
  .exact h
  .rw[oJ (hlt i o ho) h]at abW;cases abW
 have apW:∀(k:Nat)(l:List Oper)(listed:Array Bool),(∀j,l[j]? =ops[k+j]?)->listed.size=ops.size->(∀i,i<ops.size->(listed.getD i false=true↔i<k/\∀x∈([]:List (Nat×Oper)),x.1≠i))->l=[]->Region.ready .any ops listed=[]:=by
  intro k l listed hl hsz hL hnil;have hend:ops.size<=k:=by
   rcases avN k ops.size with h|h
   .have:=hl 0;simp[h,hnil]at this
   .exact h
  refine List.eq_nil_iff_forall_not_mem.2 λi hi=>?_;obtain⟨o,ho,hn,_⟩:=Cb.1 hi;obtain⟨hi1,_⟩:=avw.1 ho;have:=(hL i hi1).2 ⟨abn,λx hx=>afg⟩;rw[Fb abn,this]at hn;cases hn
 induction fuel with
 |zero=>
  intro F l k listed a w hk hkz hl hsz hF hp hL hcl hf hw;have hk2:ops.size<=k/\F.length=0:=by
   rcases avN k ops.size with h|h
   .omega
   .refine⟨h,?_⟩;cases F with
    |nil=>rfl
    |cons x F=>exfalso;have:=hl 0;obtain⟨h1,h2⟩:=hF x avA;have:=hS _ h2;simp only[avq]at hf;omega
  obtain⟨hk2,hF0⟩:=hk2;have hFn:F=[]:=awm.1 hF0;subst hFn;have hln:l=[]:=by
   cases l with
   |nil=>rfl
   |cons o l=>have:=hl 0;rw[axG abn]at this;cases this
  subst hln;exact wpAny_done (apW k [] listed hl hsz hL rfl) hw 0
 |succ fuel ih=>
  intro F l k listed a w hk hkz hl hsz hF hp hL hcl hf hw;have hset:∀i,i<listed.size->∀j,(listed.setIfInBounds i true).getD j false=(if j=i then true else listed.getD j false):=by
   intro i hi j;split
   .next e=>subst e;simp[Array.getD,hi]
   .next e=>exact getD_set_ne false (axl e)
  have amX:∀i o,ops[i]? =some o->i∈Region.ready .any ops listed->∀j m,(listed.setIfInBounds i true).getD j false=true->((masks ops.toList []).getD j 0).testBit m=true->(listed.setIfInBounds i true).getD m false=true:=by
   intro i o ho hi j m hj hm;obtain⟨hi1,_⟩:=avw.1 ho;rw[hset i abn]at hj ⊢;split
   .rfl
   .split at hj
    .next e=>subst e;exact V3 hcl ho hi m hm
    .exact hcl j m hj hm
  refine⟨λhnone=>?_,λi hi=>?_⟩
  .cases F with
   |cons x F=>
    exfalso;obtain⟨hx1,hx2⟩:=hF x avA;have auY:=hS _ hx2;obtain⟨hxs,_⟩:=avw.1 hx1;have hun:listed.getD x.1 true=false:=by
     rw[Fb abn];cases hb:listed.getD x.1 false with
     |false=>rfl
     |true=>exact(((hL x.1 hxs).1 hb).2 x avA rfl).elim
    have:x.1∈Region.ready .any ops listed:=by
     refine Cb.2 ⟨x.2,hx1,hun,λe he hb=>?_⟩;have aoe:=amW hx1 e he hb;refine(hL e.on abn).2 ⟨abn,λy hy=>?_⟩;rcases avF.1 hy with rfl|hy
     .omega
     .have:=(axc.1 hp).1 y hy;omega
    rw[hnone]at this;cases this
   |nil=>
    cases l with
    |nil=>exact hw
    |cons o l=>
     exfalso;have ho:ops[k]? =some o:=by simpa using(hl 0).symm
     obtain⟨hks,_⟩:=avw.1 ho;have hun:listed.getD k true=false:=by
      rw[Fb abn];cases hb:listed.getD k false with
      |false=>rfl
      |true=>have:=((hL k hks).1 hb).1;omega
     have:k∈Region.ready .any ops listed:=by refine Cb.2 ⟨o,ho,hun,λe he hb=>?_⟩;have aoe:=amW ho e he hb;exact(hL e.on abn).2 ⟨abn,λy hy=>asK⟩
     rw[hnone]at this;cases this
  .obtain⟨o,ho,hn,_⟩:=Cb.1 hi;obtain⟨his,_⟩:=avw.1 ho;have hun:listed.getD i false=false:=by rw[← Fb abn];exact hn
   have hsub:=V3 hcl ho hi;rw[wpOp_step ho];by_cases hFi:∃x∈F,x.1=i
   .obtain⟨x,hxF,rfl⟩:=hFi;obtain⟨A,B,rfl⟩:=List.append_of_mem hxF;obtain⟨hx1,hx2⟩:=hF x hxF;rw[ho]at hx1;have hxo:x.2=o:=(Option.some.inj hx1).symm;have hpA:∀y∈A,y.1<x.1:=λy hy=>(ayn.1 hp).2.2 y hy x avA;have hpB:∀y∈B,x.1<y.1:=λy hy=>(axc.1 (ayn.1 hp).2.1).1 y hy;have hw2:Gj P ops Q (Q .normal) (A.map (·.2)++o::(B.map (·.2)++l)) a w:=by rw[aws,avK,hxo,avE]at hw;exact hw
    refine Ry ?_ (aah hQ hO _ _ a w (λf hf=>?_) hw2)
    .intro a' w' h';refine ih (A++B) l k _ a' w' hk hkz hl (by simpa using hsz) (λy hy=>hF y ?_) ?_ ?_ (amX x.1 o ho hi) ?_ (by rw[aws,avE];exact h')
     .rcases avR.1 hy with h|h
      .exact awg _ h
      .exact awz _ (avy _ h)
     .rw[ayn]at hp ⊢;exact⟨hp.1,(axc.1 hp.2.1).2,λy hy z hz=>hp.2.2 y hy z (avy _ hz)⟩
     .intro j hj;rw[hset x.1 abn];split
      .next e=>
       subst e;refine⟨λ_=>⟨by have:=hS _ hx2;omega,λy hy=>?_⟩,λ_=>rfl⟩;rcases avR.1 hy with h|h
       .have:=hpA y h;omega
       .have:=hpB y h;omega
      .next e=>
       rw[hL j hj];refine aw6 λ_=>⟨λh y hy=>?_,λh y hy=>?_⟩
       .rcases avR.1 hy with h'|h'
        .exact h y (awg _ h')
        .exact h y (awz _ (avy _ h'))
       .rcases avR.1 hy with h'|h'
        .exact h y (awg _ h')
        .rcases avF.1 h' with rfl|h'
         .exactλe'=>e e'.symm
         .exact h y (awz _ h')
     .simp only[avn,avq]at hf ⊢;omega
    .obtain⟨y,hy,rfl⟩:=awJ.1 hf;obtain⟨hy1,hy2⟩:=hF y (awg _ hy);obtain⟨hys,_⟩:=avw.1 hy1;rcases hfl x.1 o y.1 y.2 ho hy1 (hpA y hy) (.inr ⟨hx2,hy2⟩)with hb|hb
     .have:=((hL y.1 hys).1 (hsub y.1 hb)).2 y (awg _ hy) rfl;exact this.elim
     .exact hb.2
   .have hge:k<=i:=by
     rcases avN i k with h|h
     .have:=(hL i his).2 ⟨h,λx hx e=>hFi ⟨x,hx,e⟩⟩;rw[hun]at this;cases this
     .exact h
    have hik:i=k:=by
     rcases avN k i with h|h
     .exfalso;have hok:∃f,ops[k]? =some f:=⟨ops[k]' abn,acA⟩;obtain⟨f,hof⟩:=hok;rcases hfl i o k f ho hof h (.inl abn)with hb|hb
      .have:=((hL k abn).1 (hsub k hb)).1;omega
      .have:=hS _ hb.1;omega
     .omega
    subst hik;cases l with
    |nil=>have:=hl 0;rw[aw0,ho]at this;cases this
    |cons o' l=>
     have ho':ops[i]? =some o':=by simpa using(hl 0).symm
     rw[ho]at ho';cases ho';refine Ry ?_ (aah hQ hO _ _ a w (λf hf=>?_) hw)
     .intro a' w' h';refine ih F l (i+1) _ a' w' abn abn (λj=>by have:=hl (j+1);simpa[Nat.add_assoc,ayj 1 j]using this) (by simpa using hsz) hF hp ?_ (amX i o ho hi) abn h';intro j hj;rw[hset i abn];split
      .next e=>subst e;exact⟨λ_=>⟨abn,λx hx e=>hFi ⟨x,hx,e⟩⟩,λ_=>rfl⟩
      .next e=>rw[hL j hj];exact and_congr_left λ_=>abn
     .obtain⟨y,hy,rfl⟩:=awJ.1 hf;obtain⟨hy1,hy2⟩:=hF y hy;obtain⟨hys,_⟩:=avw.1 hy1;have:=hS _ hy2;rcases hfl i o y.1 y.2 ho hy1 abn (.inl hk)with hb|hb
      .exact(((hL y.1 hys).1 (hsub y.1 hb)).2 y hy rfl).elim
      .exact hb.2
end Go.Fw
namespace Go.Fw
open Go
variable {P:Program} {w0:World} {M:Nat->Prop} {T:Ext} {γ γ':Nat->Value} {st:St} {a:Act} {w w':World} {Θ:jr} {Γ:kR}
def ah6:Op->Bool
 |.store _ _ _=>false
 |.call {callee:=.builtin .append,.. }|.call {callee:=.builtin .copy,.. }|.call {callee:=.builtin .clear,.. }=>false
 |_=>true
def alJ(m:List Nat)(o:Oper):Bool:=match o.op,o.guard with
 |.call {callee:=.builtin .append,args,.. },none=>match args.toList with
  |.tmp t::_=>aO m t
  |_=>false
 |_,_=>false
def madeBy(m:List Nat)(o:Oper):List Nat:=match o.op,o.dst with
 |.buildSlice _ _ _,some d=>d::m
 |.call {callee:=.builtin .append,.. },some d=>d::m
 |_,_=>m
def V4:List Nat->List Oper->Nat
 |_,[]=>0
 |m,o::r=>match ah6 o.op||alJ m o with|true=>V4 (madeBy m o) r+1|false=>0
def V5:List Nat->List Oper->Nat
 |_,[]=>0
 |m,o::r=>match ah6 o.op||(alJ m o||yU o.op)with|true=>V5 (madeBy m o) r+1|false=>0
def akv(m:List Nat)(o:Oper):List Nat:=match o.op,o.dst with
 |.call {callee:=.value (.func _),.. },some d=>d::m
 |_,_=>madeBy m o
def abX:List Nat->List Oper->Nat
 |_,[]=>0
 |m,o::r=>match ah6 o.op||(alJ m o||yU o.op)with|true=>abX (akv m o) r+1|false=>0
def V6:Nat->List Oper->List (Nat×Nat)
 |_,[]=>[]
 |i,o::r=>match o.op with
  |.call {callee:=.builtin .append,args,.. }=>match args.toList with
   |.tmp t::_=>(i,t*64+1)::V6 (i+1) r
   |_=>V6 (i+1) r
  |_=>V6 (i+1) r
def amY(R:Reg):Bool:=R.A.all λx=>match idxOf R.D (x.2 / 64) 0 with
 |some j=>(R.ms.getD x.1 0).testBit j
 |none=>false
theorem ah7{e q:Nat}:∀(A:List (Nat×Nat)),H7 A e q=true->(e,q)∈A
 |[],h=>agk
 |(e',q')::r,h=>by
  rw[H7]at h;split at h
  .next hb=>rw[avo]at hb;rw[avs hb.1,avs hb.2];exact avA
  .exact avy _ (ah7 r h)
theorem ajI{R:Reg}(h:amY R=true)(e q:Nat)(hm:H7 R.A e q=true):∃j,idxOf R.D (q / 64) 0=some j/\(R.ms.getD e 0).testBit j=true:=by
 have:=avL.1 h _ (ah7 _ hm);split at this
 .next j hj=>exact⟨j,hj,this⟩
 .cases this
def I8:Nat->List Nat->Bool
 |_,[]=>true
 |i,m::r=>Nat.beq (m+1) (2 ^ i)&&I8 (i+1) r
def amZ(t0:Nat)(ms:List Nat):List Nat:=(List.range t0).filter λj=>!((ms.drop t0).all λm=>m.testBit j)
def abY(ops:List Oper)(j i:Nat):Bool:=match ops[j]?,ops[i]? with
 |some f,some o=>passes f o
 |_,_=>false
def lateRow(ops:List Oper)(S:List Nat)(m i:Nat):Bool:=(List.range i).all λj=>m.testBit j||(aO S j&&abY ops j i)
def ah8(ops:List Oper)(t0:Nat)(ms:List Nat)(S:List Nat):Bool:=
 (List.range ops.length).all λi=>match Nat.ble t0 i with
   |true=>Nat.blt (ms.getD i 0) (2 ^ i)&&lateRow ops S (ms.getD i 0) i
   |false=>match aO S i with
    |true=>S.all λj=>Nat.ble i j||((ms.getD i 0).testBit j||abY ops j i)
    |false=>true
def PZ(ops:List Oper)(t0:Nat)(ms:List Nat):Bool:=match I8 t0 (ms.drop t0)with
 |true=>true
 |false=>ah8 ops t0 ms (amZ t0 ms)
def front(l:List Oper):Nat:=match PZ l (V4 [] l) (masks l [])with
 |true=>V4 [] l
 |false=>match PZ l (V5 [] l) (masks l [])with|true=>V5 [] l|false=>abX [] l
def ah9(l:List Oper):Bool:=l.all λo=>match o.guard with
 |some (g,_)=>match l[g]? with
  |some og=>og.dst.isSome
  |none=>false
 |none=>true
def akw(n:Nat)(l:List Oper):Bool:=l.all λo=>match o.dst with|some d=>Nat.blt d n|none=>true
def abZ(own:Nat->Bool):List Oper->List Nat
 |[]=>[]
 |o::r=>match ahI o.op,o.dst with
  |true,some d=>match own d with|true=>abZ own r|false=>d::abZ own r
  |_,_=>abZ own r
def aed(own:Nat->Bool)(l:List Oper)(s:St):St:=
 match abZ own l with
 |[]=>s
 |z=>s.freeze λo=>aO z (o / 64)&&!(Nat.beq (o%64) 0)
def XY(d:Nat):List (Nat×Operand)->Bool
 |[]=>false
 |(_,.tmp t)::r=>Nat.beq t d||XY d r
 |_::r=>XY d r
def arL(l:List Oper)(d:Nat):Bool:=l.any λb=>match b.op,b.dst with
 |.build _ ps,some e=>XY d ps.toList&&l.any λc=>match c.op with|.buildSlice _ _ qs=>XY e qs.toList|_=>false
 |_,_=>false
def Rz(l0:List Oper):List Oper->List Nat
 |[]=>[]
 |o::r=>match XW o.op,o.dst with
  |true,some d=>match arL l0 d with|true=>d::Rz l0 r|false=>Rz l0 r
  |_,_=>Rz l0 r
def apX(own:Nat->Bool)(l:List Oper):List Nat:=(abZ own l++Rz l l).filter λd=>!((V6 0 l).any λx=>Nat.beq x.2 (d*64+1))
def qF(n:Nat)(own:Nat->Bool)(Γ:kR)(U:List Nat)(ops:List Oper):Reg:=⟨dstsOf n 0 (ops.take (front ops)),U,masks ops [],PU Γ 0 (ops.take (front ops)),V6 0 (ops.take (front ops)),n,apX own (ops.take (front ops))⟩
def NC(Θ:jr)(Γ:kR)(own:Nat->Bool)(U:List Nat)(ops:List Oper)(K:St->Prop)(st:St):Prop:=
 match nodup (qF st.n own Γ U ops).D&&(akw st.n (ops.take (front ops))&&(PZ ops (front ops) (qF st.n own Γ U ops).ms&&((qF st.n own Γ U ops).E.all (D7 (qF st.n own Γ U ops).ms (qF st.n own Γ U ops).E)&&(amY (qF st.n own Γ U ops)&&ah9 ops))))with
 |true=>tY Θ Γ (qF st.n own Γ U ops) (bQ (qF st.n own Γ U ops).D st) (λpath=>
   runs Θ Γ own ops K (ops.drop (front ops)) (aed own (ops.take (front ops)) (after (bQ (qF st.n own Γ U ops).D st) path λ_=>true))) 0 (ops.take (front ops)) []
 |false=>False
theorem afI:∀(m:List Nat)(l:List Oper),V4 m l<=l.length
 |_,[]=>avt _
 |m,o::r=>by
  rw[V4];split
  .have:=afI (madeBy m o) r;rw[avq];omega
  .exact avM _
theorem afJ:∀(m:List Nat)(l:List Oper),V5 m l<=l.length
 |_,[]=>avt _
 |m,o::r=>by
  rw[V5];split
  .have:=afJ (madeBy m o) r;rw[avq];omega
  .exact avM _
theorem afK:∀(m:List Nat)(l:List Oper),abX m l<=l.length
 |_,[]=>avt _
 |m,o::r=>by
  rw[abX];split
  .have:=afK (akv m o) r;rw[avq];omega
  .exact avM _
theorem aof(l:List Oper):front l<=l.length:=by
 unfold front;split
 .exact afI [] l
 .split
  .exact afJ [] l
  .exact afK [] l
theorem agy{l:List Oper}(h:ah9 l=true){i:Nat}{o:Oper}{g:Nat}{b:Bool}(ho:l[i]? =some o)(hg:o.guard=some (g,b)):∃og d,l[g]? =some og/\og.dst=some d:=by
 have:=avL.1 h o (awc ho);rw[hg]at this;simp only at this;split at this
 .next og hog=>obtain⟨d,hd⟩:=Option.isSome_iff_exists.1 this;exact⟨og,d,hog,hd⟩
 .cases this
theorem aia{n:Nat}{l:List Oper}(h:akw n l=true){i:Nat}{o:Oper}{d:Nat}(ho:l[i]? =some o)(hd:o.dst=some d):d<n:=by have:=avL.1 h o (awc ho);rw[hd]at this;simpa[ax4]using this
theorem Zk:∀{l:List Nat}{k:Nat},I8 k l=true->∀i m,l[i]? =some m->m+1=2 ^ (k+i)
 |[],_,_,i,m,hm=>by simp at hm
 |x::r,k,h,0,m,hm=>by
  rw[I8,avo]at h;simp at hm;subst hm;exact avs h.1
 |x::r,k,h,i+1,m,hm=>by rw[I8,avo]at h;have:=Zk h.2 i m asI;rw[this];congr 1;omega
theorem V7:∀(l:List Oper)(acc:List Nat),(masks l acc).length=acc.length+l.length
 |[],acc=>by simp[masks]
 |o::r,acc=>by rw[masks,V7 r];simp;omega
theorem ab1:∀{l:List Nat},nodup l=true->∀(i j:Nat)(x:Nat),l[i]? =some x->l[j]? =some x->i=j
 |[],_,i,j,x,hi,_=>arA
 |y::r,h,i,j,x,hi,hj=>by
  rw[nodup,avo]at h;have hno:y ∉ r:=λhm=>by have:=sJ.2 hm;rw[this]at h;simp at h
  match i,j with
  |0,0=>rfl
  |0,j+1=>simp at hi hj;exact(hno (hi▸awc hj)).elim
  |i+1,0=>simp at hi hj;exact(hno (hj▸awc hi)).elim
  |i+1,j+1=>simp at hi hj;rw[ab1 h.2 i j x hi hj]
theorem J6{n:Nat}:∀{l:List Oper}{k:Nat},(∀(i:Nat)(o:Oper),l[i]? =some o->∃d,rW n (k+i) o=some d)->∀(i:Nat)(o:Oper)(d:Nat),l[i]? =some o->rW n (k+i) o=some d->(dstsOf n k l)[i]? =some d
 |[],_,_,i,o,d,hi,_=>arA
 |x::r,k,h,i,o,d,hi,hd=>by
  obtain⟨e,he⟩:=h 0 x rfl;rw[aw0]at he;rw[dstsOf,he]
  match i with
  |0=>simp at hi;subst hi;rw[aw0,he]at hd;cases hd;rfl
  |i+1=>simp;exact J6 (k:=k+1) (λj o' hj=>by rw[show k+1+j=k+(j+1)from abn];exact h (j+1) o' ana) i o d ail (by rw[show k+1+i=k+(i+1)from abn];exact hd)
theorem aib{ops:List Oper}{S:List Nat}{m i:Nat}(h:lateRow ops S m i=true){j:Nat}(hj:j<i){o f:Oper}(ho:ops[i]? =some o)(hf:ops[j]? =some f):m.testBit j=true\/(aO S j=true/\passes f o=true):=by have:=avL.1 h j (awh.2 hj);rw[awC,avo,abY,ho,hf]at this;exact this
theorem Us{ops:List Oper}{t0:Nat}{ms S:List Nat}(h:ah8 ops t0 ms S=true){i:Nat}{o:Oper}(ho:ops[i]? =some o):
 (t0<=i->ms.getD i 0<2 ^ i)/\∀{j:Nat}{f:Oper},ops[j]? =some f->j<i->t0<=i\/(aO S i=true/\aO S j=true)->(ms.getD i 0).testBit j=true\/(aO S j=true/\passes f o=true):=by
 obtain⟨hi,_⟩:=avG.1 ho;have:=avL.1 h i (awh.2 hi);split at this
 .next hb=>rw[avo]at this;exact⟨λ_=>by simpa[ax4]using this.1,λhf hj _=>aib this.2 hj ho hf⟩
 .next hb=>
  have hlt:¬t0<=i:=λh'=>by rw[Nat.ble_eq_true_of_le h']at hb;cases hb
  refine⟨λh'=>(hlt h').elim,λ{j f} hf hj h'=>?_⟩;obtain⟨h1,h2⟩:=h'.resolve_left hlt;rw[h1]at this;have:=avL.1 this j (sJ.1 h2);rw[awC,awC,abY,ho,hf]at this;rcases this with h3|h3|h3
  .have:=awy h3;omega
  .exact .inl h3
  .exact .inr ⟨h2,h3⟩
theorem ab2(L:Nat->Bool):∀(n:Nat),((List.range n).filter λi=>!(L i)).length=Fa L n
 |0=>rfl
 |n+1=>by
  rw[axW,List.filter_append,avn,ab2 L n,Fa];cases h:L n
  .simp[h,ayj]
  .simp[h]
theorem aic(L:Nat->Bool){t0:Nat}(h:∀i,t0<=i->L i=false):∀(n:Nat),t0<=n->Fa L n=Fa L t0+(n-t0)
 |0,hn=>by
  have:t0=0:=abn;subst this;rfl
 |n+1,hn=>by
  rcases avN n t0 with h'|h'
  .have:t0=n+1:=abn;subst this;simp
  .rw[Fa,h n h',aic L h n h'];simp only;omega
structure XZ(Θ:jr)(Γ:kR)(w0:World)(M:Nat->Prop)(T:Ext)(st:St)(R:Reg)(ops:Array Oper)(t0:Nat)(listed:Array Bool)(path:List dU)(γ:Nat->Value)(a:Act)(w:World):Prop where
 way:Way R ops t0 path
 size:listed.size=ops.size
 tail:∀i,t0<=i->listed.getD i false=false
 shut:∀i j,listed.getD i false=true->((masks ops.toList []).getD i 0).testBit j=true->listed.getD j false=true
 ok:∀j o x,ops[j]? =some o->path[j]? =some x->listed.getD j false=true->rF Θ Γ R (bQ R.D st) path j o x
 rel:Rel w0 M T γ (after (bQ R.D st) path λi=>listed.getD i false) a w
theorem am0{G:jX}(hE:rD P G Θ Γ w0 M){ops:Array Oper}{Q:Exit->Act->World->Prop}(hQ:∀c a w,¬Q (.panic c) a w)(hO:¬LetsOut Q){R:Reg}{t0:Nat}{K:List dU->Prop}(ht0:t0<=ops.size)(hms:R.ms=masks ops.toList [])
 (hRn:R.n=st.n) (hDn:∀i o d,ops[i]? =some o->i<t0->o.dst=some d->d<st.n) (hgd:∀i o g b,ops[i]? =some o->i<t0->o.guard=some (g,b)->∃og d,ops[g]? =some og/\og.dst=some d) (hcmp:∀e∈R.E,D7 R.ms R.E e=true) (hEi:∀j o',ops[j]? =some o'->j<t0->yh Γ o'.op=true->j∈R.E)
 (hA:∀e q,H7 R.A e q=true->∃j,idxOf R.D (q / 64) 0=some j/\(R.ms.getD e 0).testBit j=true)
 (Rx:∀ext:List dU,ext.length<=t0->aaf Θ Γ R (bQ R.D st) (ops.toList.take t0) ext->(ext.length=t0->K ext)/\∀o,(ops.toList.take t0)[ext.length]? =some o->Enabled Θ Γ R (bQ R.D st) ext ext.length o)
 {S:Nat->Prop} (hfl:∀i o j f,ops[i]? =some o->ops[j]? =some f->j<i->t0<=i\/(S i/\S j)->((masks ops.toList []).getD i 0).testBit j=true\/(S j/\passes f o=true)) (hS:∀j,S j->j<t0)
 (hlt:∀i o,ops[i]? =some o->(masks ops.toList []).getD i 0<2 ^ i)
 (hend:∀path γ' a' w',K path->path.length=t0->Rel w0 M T γ' (after (bQ R.D st) path λ_=>true) a' w'->wpList P ops Q (ops.toList.drop t0) a' w'):
 ∀(fuel:Nat)(listed:Array Bool)(path:List dU)(γ:Nat->Value)(a:Act)(w:World),XZ Θ Γ w0 M T st R ops t0 listed path γ a w->
  Fa (λi=>listed.getD i false) ops.size<=fuel->wpAny P .any ops Q fuel listed a w:=by
 have Q8:(ops.toList.take t0).length=t0:=adK;have hget:∀j o,(ops.toList.take t0)[j]? =some o↔j<t0/\ops[j]? =some o:=λj o=>by
  rcases avN j t0 with h|h
  .rw[awI h];simp[h]
  .rw[aww (by rw[Q8];exact h)];constructor
   .intro h';cases h'
   .rintro⟨h',_⟩;omega
 have fin:∀(listed:Array Bool)(path:List dU)(γ:Nat->Value)(a:Act)(w:World),XZ Θ Γ w0 M T st R ops t0 listed path γ a w->
  (∀i,i<t0->listed.getD i false=true)->wpList P ops Q (ops.toList.drop t0) a w:=by
  intro listed path γ a w I hdone;have hR:=I.rel;have hK:K path:=by refine(Rx path (by rw[I.way.len];exact avt _) λi o x hi hx=>?_).1 I.way.len;obtain⟨h1,h2⟩:=(hget i o).1 hi;exact I.ok i o x h2 hx (hdone i h1)
  have hsame:after (bQ R.D st) path (λi=>listed.getD i false)=after (bQ R.D st) path λ_=>true:=by
   unfold after;have:∀(l:List dU)(j:Nat),j+l.length<=t0->pick l j (λi=>listed.getD i false)=pick l j λ_=>true:=by
    intro l
    induction l with
    |nil=>intros;rfl
    |cons y l ih=>intro j hj;rw[pick,pick];simp only[avq]at hj;simp only[hdone j abn];rw[ih (j+1) abn]
   rw[this path 0 (by rw[I.way.len];omega)]
  rw[hsame]at hR;exact hend path γ a w hK I.way.len hR
 have step:∀(listed:Array Bool)(path:List dU)(γ:Nat->Value)(a:Act)(w:World),XZ Θ Γ w0 M T st R ops t0 listed path γ a w->∀(i:Nat)(o:Oper),ops[i]? =some o->i<t0->listed.getD i false=false->
  (∀j,((masks ops.toList []).getD i 0).testBit j=true->listed.getD j false=true)->∀(K':Act->World->Prop),
  (∀path' γ' a' w',XZ Θ Γ w0 M T st R ops t0 (listed.setIfInBounds i true) path' γ' a' w'->K' a' w')->wpOp P ops Q i K' a w:=by
  intro listed path γ a w I i o ho hit hil hsub K' hK';obtain⟨W,hsz,htl,hcl,hok,hR⟩:=I;have hen:Enabled Θ Γ R (bQ R.D st) path i o:=by
   obtain⟨ext,g1,g2,g3⟩:=fill hE.toEnvB (R:=R) (base:=bQ R.D st) (front:=ops.toList.take t0) (path:=path) (L:=λi=>listed.getD i false)
    (λext hc o' ho'=>(Rx ext (by obtain⟨hlt',_⟩:=avG.1 ho';rw[Q8]at hlt';omega) hc).2 o' ho')
    (λj o' x ho' hx hL=>hok j o' x ((hget j o').1 ho').2 hx hL) (by rw[W.len,Q8]) (λj k hL hk=>hcl j k hL (by rw[← hms];exact hk)) i (by rw[Q8];omega)
   have:=(Rx ext abn g2).2 o ((hget _ o).2 ⟨abn,by rw[g1];exact ho⟩);rw[g1]at this;refine this.agree λj hj=>?_;rw[hms]at hj;have hji:j<i:=by
    rcases avN j i with h|h
    .exact h
    .rw[oJ (hlt i o ho) h]at hj;cases hj
   exact g3 j hji (hsub j hj)
  have hset:∀j,(listed.setIfInBounds i true).getD j false=(if j=i then true else listed.getD j false):=by
   intro j;split
   .next e=>subst e;simp[Array.getD,show j<listed.size from abn]
   .next e=>exact getD_set_ne false (axl e)
  refine aoc hE (L:=λi=>listed.getD i false) (L':=λj=>(listed.setIfInBounds i true).getD j false) W ht0 hit hRn hDn hgd hcmp hEi hA ho hen hok (λj k hL hk=>hcl j k hL (by rw[← hms];exact hk)) (λj hj=>hsub j (by rw[← hms];exact hj)) hil
   (by simp only[hset,if_true]) (λj hj=>by simp only[hset,if_neg hj]) hR ?_
  intro x γ' a' w' ⟨y,hy,hxy⟩ hx hR';refine hK' (path.set i x) γ' a' w' ⟨W.set hy hxy,by simpa using hsz,?_,?_,?_,hR'⟩
  .intro j hj;rw[hset,if_neg abn];exact htl j hj
  .intro j k hj hk;rw[hset]at hj ⊢;split
   .rfl
   .split at hj
    .next e=>subst e;exact hsub k hk
    .exact hcl j k hj hk
  .intro j o' z ho' hz hL;obtain⟨atd,_⟩:=avG.1 hy;by_cases e:j=i
   .subst e;rw[awM atd]at hz;cases hz;rw[ho]at ho';cases ho';exact hx
   .rw[awq (axl e)]at hz;rw[hset,if_neg e]at hL;refine(hok j o' z ho' hz hL).agree λk hk=>?_;have hLk:=hcl j k hL (by rw[← hms];exact hk);have hki:i≠k:=λe=>by subst e;rw[hil]at hLk;cases hLk
    rw[awq hki]
 have pend:∀(F:List (Nat×Oper))(listed:Array Bool)(path:List dU)(γ:Nat->Value)(a:Act)(w:World),XZ Θ Γ w0 M T st R ops t0 listed path γ a w->
  (∀x∈F,ops[x.1]? =some x.2/\x.1<t0)->F.Pairwise (λx y=>x.1<y.1)->(∀i,i<t0->(listed.getD i false=true↔∀x∈F,x.1≠i))->
  Gj P ops Q (Q .normal) (F.map (·.2)++ops.toList.drop t0) a w:=by
  intro F
  induction F with
  |nil=>
   intro listed path γ a w I _ _ hL;rw[ayl,awo,Zj];exact fin listed path γ a w I λi hi=>(hL i hi).2 λx hx=>afg
  |cons x F ih=>
   intro listed path γ a w I hF hp hL;obtain⟨hx1,hx2⟩:=hF x avA;have hpx:=(axc.1 hp).1;have hun:listed.getD x.1 false=false:=by
    cases hb:listed.getD x.1 false with
    |false=>rfl
    |true=>exact((hL x.1 hx2).1 hb x avA rfl).elim
   refine(wpOp_step hx1).1 (step listed path γ a w I x.1 x.2 hx1 hx2 hun (λj hj=>?_) _ λpath' γ' a' w' I'=>?_)
   .have hjx:j<x.1:=by
     rcases avN j x.1 with h|h
     .exact h
     .rw[oJ (hlt x.1 x.2 hx1) h]at hj;cases hj
    refine(hL j abn).2 λy hy=>?_;rcases avF.1 hy with rfl|hy
    .omega
    .have:=hpx y hy;omega
   .refine ih _ path' γ' a' w' I' (λy hy=>hF y (avy _ hy)) (axc.1 hp).2 λi hi=>?_;have hxs:x.1<listed.size:=by rw[I.size];exact(avw.1 hx1).1
    by_cases e:i=x.1
    .subst e;refine⟨λ_ y hy=>by have:=hpx y hy;omega,λ_=>by simp[Array.getD,hxs]⟩
    .rw[getD_set_ne false (axl e),hL i hi];refine⟨λh y hy=>h y (avy _ hy),λh y hy=>?_⟩;rcases avF.1 hy with rfl|hy
     .exactλe'=>e e'.symm
     .exact h y hy
 have late:∀(fuel:Nat)(listed:Array Bool)(path:List dU)(γ:Nat->Value)(a:Act)(w:World),XZ Θ Γ w0 M T st R ops t0 listed path γ a w->Fa (λi=>listed.getD i false) ops.size<=fuel->
  (∀i,i<t0->¬S i->listed.getD i false=true)->wpAny P .any ops Q fuel listed a w:=by
  intro fuel listed path γ a w I hf hd;have hcount:=aic (λi=>listed.getD i false) I.tail ops.size ht0;have hlen:=ab2 (λi=>listed.getD i false) t0;have hmem:∀x,x∈((List.range t0).filter λi=>!(listed.getD i false)).map (λi=>(i,(ops[i]?).getD default))↔∃i,i<t0/\listed.getD i false=false/\(i,(ops[i]?).getD default)=x:=by intro x;simp only[awJ,axX,awh,aw5,and_assoc]
  have aqU:∀i,i<t0->ops[i]? =some ((ops[i]?).getD default):=λi hi=>by have:ops[i]? =some (ops[i]' abn):=acA;rw[this];rfl
  have apt:(((List.range t0).filter λi=>!(listed.getD i false)).map (λi=>(i,(ops[i]?).getD default))).Pairwise (λx y=>x.1<y.1):=by rw[ayw];exact(List.pairwise_lt_range (n:=t0)).filter _
  refine aod hQ hO hfl hS hlt fuel (((List.range t0).filter λi=>!(listed.getD i false)).map (λi=>(i,(ops[i]?).getD default))) (ops.toList.drop t0) t0 listed a w (avt _) ht0 (λj=>acA) I.size ?_ apt ?_ I.shut ?_ ?_
  .intro x hx;obtain⟨i,h1,h2,rfl⟩:=(hmem x).1 hx;refine⟨aqU i h1,awL λhno=>?_⟩;have:=hd i h1 hno;rw[h2]at this;cases this
  .intro i hi;refine⟨λh=>⟨?_,λx hx e=>?_⟩,λ⟨h1,h2⟩=>?_⟩
   .rcases avN i t0 with h'|h'
    .exact h'
    .rw[I.tail i h']at h;cases h
   .obtain⟨j,_,h2,rfl⟩:=(hmem x).1 hx;subst e;rw[h2]at h;cases h
   .cases hb:listed.getD i false with
    |true=>rfl
    |false=>exact(h2 _ ((hmem _).2 ⟨i,h1,hb,rfl⟩) rfl).elim
  .rw[avI,hlen];omega
  .refine pend _ listed path γ a w I (λx hx=>?_) apt λi hi=>⟨λh x hx e=>?_,λh=>?_⟩
   .obtain⟨i,h1,_,rfl⟩:=(hmem x).1 hx;exact⟨aqU i h1,h1⟩
   .obtain⟨j,_,h2,rfl⟩:=(hmem x).1 hx;subst e;rw[h2]at h;cases h
   .cases hb:listed.getD i false with
    |true=>rfl
    |false=>exact(h _ ((hmem _).2 ⟨i,hi,hb,rfl⟩) rfl).elim
 intro fuel
 induction fuel with
 |zero=>
  intro listed path γ a w I hf;have hall:∀i,i<ops.size->listed.getD i false=true:=ah2 (L:=λi=>listed.getD i false) ops.size abn;exact late 0 listed path γ a w I hf λi hi _=>hall i abn
 |succ fuel ih=>
  intro listed path γ a w I hf;by_cases hdone:∀i,i<t0->¬S i->listed.getD i false=true
  .exact late (fuel+1) listed path γ a w I hf hdone
  .obtain⟨W,hsz,htl,hcl,hok,hR⟩:=id I;have hex:∃i,i<t0/\¬S i/\listed.getD i false=false:=by
    refine awL λhno=>hdone λi hi hn=>?_;cases hl:listed.getD i false with
    |true=>rfl
    |false=>exact(hno ⟨i,hi,hn,hl⟩).elim
   obtain⟨i1,hi1,hS1,hl1⟩:=hex;obtain⟨i0,hi0,hl0,hmin⟩:=least (p:=λi=>listed.getD i false=false) t0 ⟨i1,hi1,hl1⟩;have am1:i0∈Region.ready .any ops listed:=by
    have hisz:i0<ops.size:=abn;refine Cb.2 ⟨ops[i0],by simp[hisz],by rw[Fb abn];exact hl0,λe he hb=>?_⟩;have hoi:ops.toList[i0]? =some ops[i0]:=by simp[hisz]
    have abW:=afC hoi he hb;have aoe:e.on<i0:=by
     rcases avN e.on i0 with h|h
     .exact h
     .rw[oJ (hlt i0 ops[i0] (by simp[hisz])) h]at abW;cases abW
    cases hl:listed.getD e.on false with
    |true=>rfl
    |false=>exact(hmin e.on aoe hl).elim
   refine⟨λh=>(by rw[h]at am1;cases am1),λi hi=>?_⟩;obtain⟨o,ho,hn,hall⟩:=Cb.1 hi;obtain⟨hisz,_⟩:=avw.1 ho;have hil:listed.getD i false=false:=by rw[← Fb abn];exact hn
   have hsub:=V3 hcl ho hi;have hit:i<t0:=by
    rcases avN i t0 with h|h
    .exact h
    .have ho1:ops[i1]? =some (ops[i1]' abn):=acA;rcases hfl i o i1 _ ho ho1 abn (.inl h)with hb|hb
     .have:=hsub i1 hb;rw[hl1]at this;cases this
     .exact(hS1 hb.1).elim
   refine step listed path γ a w I i o ho hit hil hsub _ λpath' γ' a' w' I'=>ih _ path' γ' a' w' I' ?_;have hset:∀j,(listed.setIfInBounds i true).getD j false=(if j=i then true else listed.getD j false):=by
    intro j;split
    .next e=>subst e;simp[Array.getD,show j<listed.size from abn]
    .next e=>exact getD_set_ne false (axl e)
   have:=akt (L:=λi=>listed.getD i false) (L':=λj=>(listed.setIfInBounds i true).getD j false) (i:=i) hil (by simp only[hset,if_true]) (λj hj=>by simp only[hset,if_neg hj]) ops.size hisz;omega
theorem Zl{ops:Array Oper}{t0:Nat}(h:I8 t0 ((masks ops.toList []).drop t0)=true){i:Nat}{o:Oper}(ho:ops[i]? =some o)(hi:t0<=i):(masks ops.toList []).getD i 0+1=2 ^ i:=by
 obtain⟨hisz,_⟩:=avw.1 ho;have hml:(masks ops.toList []).length=ops.size:=by rw[V7];simp
 have hg:((masks ops.toList []).drop t0)[i-t0]? =some ((masks ops.toList []).getD i 0):=by rw[av5,show t0+(i-t0)=i from abn,avr,avv abn];rfl
 have:=Zk h _ _ hg;rw[this];congr 1;omega
theorem amD{G:jX}(hE:rD P G Θ Γ w0 M)(hm:P.follows .mixedOrders=true){own:Nat->Bool}{U:List Nat}{id:Nat}{ops:Array Oper}{K:St->Prop}{Q:Exit->Act->World->Prop}(h:Rel w0 M T γ st a w)
 (hr:NC Θ Γ own U ops.toList K st) (hn:∀s γ' a' w',K s->Rel w0 M T γ' s a' w'->Q .normal a' w'):(Code.region id ops true).wp P Q a w:=by
 unfold NC at hr;split at hr
 case h_2=>exact hr.elim
 next hb=>
 rw[avo,avo,avo,avo]at hb;obtain⟨hnd,hlt,htl,hcmp,ag8⟩:=hb;rw[avo]at ag8;obtain⟨ag8,apY⟩:=ag8;have ht0:front ops.toList<=ops.size:=by simpa using aof ops.toList
 have hfl:(ops.toList.take (front ops.toList)).length=front ops.toList:=adK;have Rx:=λ(ext:List dU)(hle:ext.length<=front ops.toList)(hc:aaf Θ Γ (qF st.n own Γ U ops.toList) (bQ (qF st.n own Γ U ops.toList).D st) (ops.toList.take (front ops.toList)) ext)=>
  Zc (ops.toList.take (front ops.toList)) [] [] ext rfl (by rw[hfl];exact hle) hr asH
 simp only[awo,avu,avV,hfl]at Rx;have hall:∃ext:List dU,ext.length=front ops.toList/\aaf Θ Γ (qF st.n own Γ U ops.toList) (bQ (qF st.n own Γ U ops.toList).D st) (ops.toList.take (front ops.toList)) ext:=by
  obtain⟨ext,g1,g2,_⟩:=fill hE.toEnvB (R:=qF st.n own Γ U ops.toList) (base:=bQ (qF st.n own Γ U ops.toList).D st) (front:=ops.toList.take (front ops.toList)) (path:=List.replicate (front ops.toList) (skipped 0)) (L:=λ_=>false)
   (λext hc o' ho'=>(Rx ext (by obtain⟨hlt',_⟩:=avG.1 ho';rw[hfl]at hlt';omega) hc).2 o' ho') (λ_ _ _ _ _ h=>agk) (by simp[hfl]) (λ_ _ h=>agk) (front ops.toList) (by rw[hfl];exact avt _)
  exact⟨ext,g1,g2⟩
 obtain⟨aqV,hl0,hc0⟩:=hall;have am2:∀i,i<front ops.toList->∃o d,ops[i]? =some o/\(ops.toList.take (front ops.toList))[i]? =some o/\rW st.n i o=some d/\(qF st.n own Γ U ops.toList).ms.getD i 0<2 ^ i:=by
  intro i hi;have ho:ops[i]? =some (ops[i]' abn):=acA;have ho2:(ops.toList.take (front ops.toList))[i]? =some (ops[i]' abn):=by rw[awI hi];simp
  have hx:aqV[i]? =some (aqV[i]' abn):=acA;obtain⟨h1,h2,_⟩:=hc0 i _ _ ho2 hx;exact⟨_,_,ho,ho2,h1,h2⟩
 have hdst:∀(i:Nat)(o:Oper),(ops.toList.take (front ops.toList))[i]? =some o->∃d,rW st.n (0+i) o=some d:=by intro i o ho;rw[avV];obtain⟨hi,_⟩:=avG.1 ho;obtain⟨o',d,_,h2,h3,_⟩:=am2 i abn;rw[ho]at h2;cases h2;exact⟨d,h3⟩
 have hbound:∀i o,ops[i]? =some o->front ops.toList<=i->(masks ops.toList []).getD i 0<2 ^ i:=by
  intro i o ho hi;unfold PZ at htl;split at htl
  .next hb=>have:=Zl (show I8 _ ((masks ops.toList []).drop _)=true from hb) ho hi;omega
  .exact(Us htl aq7).1 hi
 have arM:∃S:Nat->Prop,(∀i o j f,ops[i]? =some o->ops[j]? =some f->j<i->front ops.toList<=i\/(S i/\S j)->((masks ops.toList []).getD i 0).testBit j=true\/(S j/\passes f o=true))/\∀j,S j->j<front ops.toList:=by
  unfold PZ at htl;split at htl
  .next hb=>
   refine⟨λ_=>False,λi o j f ho _ hj hi=>.inl ?_,λ_ h=>h.elim⟩;rcases hi with hi|hi
   .have h1:=Zl (show I8 _ ((masks ops.toList []).drop _)=true from hb) ho hi;have h2:(masks ops.toList []).getD i 0=2 ^ i-1:=abn;rw[h2,Nat.testBit_two_pow_sub_one];simpa using hj
   .exact hi.1.elim
  .refine⟨λj=>aO (amZ (front ops.toList) (qF st.n own Γ U ops.toList).ms) j=true,λi o j f ho hf hj hi=>?_,λj hj=>?_⟩
   .exact(Us htl aq7).2 (by simpa using hf) hj hi
   .have:=sJ.1 hj;exact awh.1 (axX.1 this).1
 obtain⟨S,ate,hS⟩:=arM
 let alK:List dU:=(ops.toList.take (front ops.toList)).mapIdx λi o=>skipped ((rW st.n i o).getD 0)
 have hp0:∀(i:Nat)(x:dU),alK[i]? =some x->∃o,(ops.toList.take (front ops.toList))[i]? =some o/\rW st.n (0+i) o=some x.d:=by
  intro i x hx;have hx:((ops.toList.take (front ops.toList)).mapIdx λi o=>skipped ((rW st.n i o).getD 0))[i]? =some x:=hx;rw[List.getElem?_mapIdx]at hx;cases ho:(ops.toList.take (front ops.toList))[i]? with
  |none=>rw[ho]at hx;cases hx
  |some o=>rw[ho]at hx;obtain⟨d,hd⟩:=hdst i o ho;cases hx;rw[avV]at hd ⊢;exact⟨o,rfl,by simp[skipped,hd]⟩
 have W0:Way (qF st.n own Γ U ops.toList) ops (front ops.toList) alK:=by
  refine⟨by show(List.mapIdx _ _).length=_;rw[List.length_mapIdx,hfl],λi o x ho hx=>?_,λx hx=>?_,λi j x y hx hy hxy=>?_,λi x hx=>?_⟩
  .obtain⟨o',h1,h2⟩:=hp0 i x hx;obtain⟨hi,_⟩:=avG.1 h1;rw[awI abn]at h1;have:ops[i]? =some o':=aqv;rw[ho]at this;cases this;rw[avV]at h2;exact h2
  .obtain⟨i,hi⟩:=axM hx;obtain⟨o',h1,h2⟩:=hp0 i x hi;exact sJ.2 (abU _ 0 i h1 h2)
  .obtain⟨o1,h1,h2⟩:=hp0 i x hx;obtain⟨o2,h3,h4⟩:=hp0 j y hy;have g1:=J6 hdst i o1 x.d h1 h2;have g2:=J6 hdst j o2 y.d h3 h4;rw[← hxy]at g2;exact ab1 hnd i j x.d g1 g2
  .obtain⟨o1,h1,h2⟩:=hp0 i x hx;have:=afG _ 0 i x.d hnd (J6 hdst i o1 x.d h1 h2);rw[avV]at this;exact this
 refine Code.wp_mono (Q:=λe a' w'=>match e with|.normal=>∃s γ',K s/\Rel w0 M T γ' s a' w'|_=>False) (λe a' w' he=>?_) ?_
 .cases e with
  |normal=>obtain⟨s,γ',h1,h2⟩:=he;exact hn s γ' a' w' h1 h2
  |_=>exact he.elim
 refine wp_region_any hm ?_;refine am0 (w0:=w0) (M:=M) (T:=T) hE (λ_ _ _ h=>h) (λ⟨_,_,h⟩=>h) (R:=qF st.n own Γ U ops.toList) (t0:=front ops.toList) ht0 rfl rfl ?_ (λi o g b ho _ hg=>by
  obtain⟨og,d,h1,h2⟩:=agy apY (i:=i) aq7 hg;exact⟨og,d,aqv,h2⟩) (λe he=>avL.1 hcmp e he) ?_ (ajI ag8) Rx ate hS ?_ ?_ ops.size _ alK γ _ _
  ⟨W0,acA,?_,?_,?_,?_⟩ ?_
 .intro i o d ho hi hd;exact aia hlt (i:=i) (by rw[awI hi];simpa using ho) hd
 .intro j o' ho' hj he;have:=abV (Γ:=Γ) (ops.toList.take (front ops.toList)) 0 j o' (by rw[awI hj];simpa using ho') he;rw[avV]at this;exact this
 .intro i o ho;rcases avN i (front ops.toList)with hi|hi
  .obtain⟨_,_,_,_,_,h⟩:=am2 i hi;exact h
  .exact hbound i o ho hi
 .intro path γ' a' w' hK _ hR;have arN:Rel w0 M T γ' (aed own (ops.toList.take (front ops.toList)) (after (bQ (qF st.n own Γ U ops.toList).D st) path λ_=>true)) a' w':=by
   unfold aed;split
   .exact hR
   .exact hR.freeze _
  exact JU hE (λs γ' a' w' h1 h2=>⟨s,γ',h1,h2⟩) _ _ _ _ _ arN hK
 .intro i _;simp[Array.getD]
 .intro i j hi;exfalso;simp[Array.getD]at hi
 .intro j o x _ _ hi;exfalso;simp[Array.getD]at hi
 .have:=(h.drew (w.drawn+1))|>λh=>an9 h (qF st.n own Γ U ops.toList).D;rw[alD (λi=>by simp[Array.getD])];exact this
 .have:∀n,Fa (λi=>(Array.replicate ops.size false).getD i false) n<=n:=by
   intro n
   induction n with
   |zero=>exact avt _
   |succ n ih=>rw[Fa];split<;>omega
  exact this _
end Go.Fw
