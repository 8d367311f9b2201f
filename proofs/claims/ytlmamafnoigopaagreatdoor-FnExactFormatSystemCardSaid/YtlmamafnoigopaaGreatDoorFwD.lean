import Derived.Test.YtlmamafnoigopaaGreatDoorFwB
namespace Go.Fw
open Go
variable {P:Program} {w0:World} {M:Nat->Prop} {T:Ext} {γ γ':Nat->Value} {st:St} {a:Act} {w w':World} {Θ:gY} {Γ:je}
structure dD where
 d:Nat
 v:AV
 u:List (Nat×aB)
 δ:List (Nat×aB)
 k:List Nat
def Ad(acc:List Nat):List Edge->Nat
 |[]=>0
 |e::r=>match Region.binds .any e with
  |true=>(2 ^ e.on|||acc.getD e.on 0)|||Ad acc r
  |false=>Ad acc r
def masks:List Oper->List Nat->List Nat
 |[],acc=>acc
 |o::r,acc=>masks r (acc++[Ad acc o.after.toList])
def pick:List dD->Nat->(Nat->Bool)->List dD
 |[],_,_=>[]
 |x::r,j,m=>match m j with|true=>x::pick r (j+1) m|false=>pick r (j+1) m
def vz:List dD->Nat->AV->AV
 |[],_,b=>b
 |x::r,t,b=>match Nat.beq t x.d with|true=>x.v|false=>vz r t b
def lookO:List dD->Nat->Option aB->Option aB
 |[],_,b=>b
 |x::r,o,b=>match look x.δ o with|some y=>some y|none=>lookO r o b
def oG:List dD->Nat->Option aB
 |[],_=>none
 |x::r,o=>match oG r o with|some y=>some y|none=>look x.u o
def lg(base:St)(l:List dD):St:=
 {n:=base.n,tmps:=λt=>vz l t (base.tmps t),ah:=λo=>match oG l o with|some y=>some y|none=>lookO l o (base.ah o)}
def nR:List dD->List Nat
 |[]=>[]
 |x::r=>x.k++nR r
def qB(l:List Nat)(st:St):St:=match l with|[]=>st|l=>st.kill (aO l)
def after(base:St)(path:List dD)(m:Nat->Bool):St:=qB (nR (pick path 0 m)) (lg base (pick path 0 m))
def Cell.touch(S:Nat->Bool):Cell->Bool
 |.ref o=>S o
 |_=>false
def SV.touch(S:Nat->Bool):SV->Bool
 |.one c=>c.touch S
 |.agg cs=>cs.any (Cell.touch S)
def AV.touch(S:Nat->Bool):AV->Bool
 |.undef=>false
 |.sv v=>v.touch S
 |.kZ vs=>vs.any (SV.touch S)
 |.eG o _=>S o
 |.lI o _ _=>S o
 |.win o _ _=>S o
 |.nH _ _ _ _=>false
 |.dA cs _=>cs.any (Cell.touch S)
 |.fn _ caps=>caps.any λcs=>cs.any (Cell.touch S)
def aB.touch(S:Nat->Bool):aB->Bool
 |.var cs=>cs.any (Cell.touch S)
 |.arr _ _ _ _=>false
def St.aat(st:St)(L:List Nat):St:=match L with
 |[]=>st
 |L=>{n:=st.n,tmps:=λt=>match (st.tmps t).touch (aO L)with|true=>.undef|false=>st.tmps t,
      ah:=λo=>match aO L o with|true=>none|false=>match st.ah o with|some x=>(match x.touch (aO L)with|true=>none|false=>some x)|none=>none}
def adf(ms:List Nat)(i:Nat):List (Nat×Nat)->List Nat
 |[]=>[]
 |(e,q)::r=>match Nat.beq e i||((ms.getD i 0).testBit e||(ms.getD e 0).testBit i)with|true=>adf ms i r|false=>q::adf ms i r
def Gg:List (Nat×Nat)->Nat->Nat->Bool
 |[],_,_=>false
 |(e,q)::r,i,o=>match Nat.beq e i&&Nat.beq q o with|true=>true|false=>Gg r i o
def Vy:Op->Bool
 |.call {callee:=.builtin .append,.. }=>true
 |_=>false
def vZ:Op->Bool
 |.store _ _ _=>true
 |_=>false
def rq(n i:Nat)(o:Oper):Option Nat:=match o.dst with
 |some d=>some d
 |none=>match vZ o.op with|true=>some (n+i)|false=>none
def dstsOf(n:Nat):Nat->List Oper->List Nat
 |_,[]=>[]
 |i,o::r=>match rq n i o with|some d=>d::dstsOf n (i+1) r|none=>dstsOf n (i+1) r
def nodup:List Nat->Bool
 |[]=>true
 |x::r=>!(aO r x)&&nodup r
def aP(D:List Nat)(st:St):St:=st.kill λo=>aO D (o / 64)
def BB(d:Nat)(δ:List (Nat×aB)):Bool:=δ.all λx=>Nat.beq (x.1 / 64) d
def St.hide(st:St)(U:List Nat):St:={st with ah:=λo=>match aO U o with|true=>none|false=>st.ah o}
def xJ(Γ:je)(o:Op):Bool:=match o with
 |.call {callee:=.value (.func f),.. }=>match Γ f with|some (.eff _ _)=>true|_=>false
 |.store _ _ _=>true
 |_=>false
def ND(Γ:je):Nat->List Oper->List Nat
 |_,[]=>[]
 |i,o::r=>match xJ Γ o.op with|true=>i::ND Γ (i+1) r|false=>ND Γ (i+1) r
def ET(ms:List Nat)(E:List Nat)(i:Nat):Bool:=E.all λe=>Nat.beq e i||((ms.getD i 0).testBit e||(ms.getD e 0).testBit i)
def ru(st:St)(m:Mode)(x:AV):Option (Arg×Option Nat):=
 match m with
 |.val=>match mG st [x]with
  |some [a]=>some (a,none)
  |_=>none
 |m=>pJ st m x
def wo(st:St):List Mode->List AV->Option (List Arg×List (Option Nat))
 |_,[]=>some ([],[])
 |ms,x::xs=>match ru st (ms.headD .val) x,wo st ms.tail xs with
  |some (a,o),some (as,os)=>some (a::as,o::os)
  |_,_=>none
def Arg.aol:Arg->Bool
 |.own _ _ _=>false
 |_=>true
def NG(Γ:je)(st:St):Op->Option (Prop×L8×(List (Option Nat)×Bool))
 |.call {callee:=.value (.func f),args,.. }=>match Γ f with
  |some (.eff ms con)=>match wo st ms (handed st args.toList [])with
   |some (vs,os)=>match EH (CJ ms (handed st args.toList []))||vs.all Arg.aol with
    |true=>match con vs with
     |some (p,ρ)=>some (p,ρ,(os,!(EH (CJ ms (handed st args.toList [])))))
     |none=>none
    |false=>none
   |none=>none
  |_=>none
 |_=>none
def Jy(Θ:gY)(st:St):Op->Option (List (Nat×aB))
 |.store t p x=>match st.ev x,Θ t,st.ev p with
  |.sv v,some ti,.eG o off=>match Nat.beq v.cells.length ti.cells.len,st.ah o with
   |true,some (.var cs)=>match Nat.ble (off+v.cells.length) cs.length with
    |true=>some [(o,.var (splice cs off v.cells))]
    |false=>none
   |_,_=>none
  |_,_,_=>none
 |_=>none
def ajA(D U:List Nat)(υ:List (Nat×aB)):Bool:=υ.all λy=>aO U y.1&&!(aO D (y.1 / 64))
def Tn:List (Option Nat)->List Eff->Bool
 |[],_=>true
 |none::os,aJ=>Tn os aJ.tail
 |some _::os,aJ=>match aJ.head? with|some (.var _)=>Tn os aJ.tail|_=>false
def EU(D U:List Nat)(d:Nat)(st:St)(os:List (Option Nat)×Bool)(out:Out)(aJ:List Eff):Option (AV×List (Nat×aB)×List (Nat×aB)):=
 match vU os.1&&(G5 aJ (out.take (d*64+1)).2&&(Tn os.1 aJ&&(BB d (out.take (d*64+1)).2&&(!os.2||(out.made&&Jq aJ))))),lX st os.1 aJ with
 |true,some υ=>match υ.all λy=>aO U y.1&&!(aO D (y.1 / 64))with
  |true=>some ((out.take (d*64+1)).1,υ,(out.take (d*64+1)).2)
  |false=>none
 |_,_=>none
structure Reg where
 D:List Nat
 U:List Nat
 ms:List Nat
 E:List Nat
 A:List (Nat×Nat)
 n:Nat
 F:List Nat
def lU(F:List Nat)(x:dD):dD:=match aO F x.d,x.v,x.u,x.δ with
 |true,.sv (.one (.ref q)),[],[(q',.arr e r l fr)]=>match Nat.beq q q' with
  |true=>⟨x.d,.sv (.one (.sl e r l fr)),[],[],x.k⟩
  |false=>x
 |_,_,_,_=>x
theorem nC(F:List Nat)(x:dD):(lU F x).d=x.d/\(lU F x).u=x.u/\(lU F x).k=x.k/\∀y∈(lU F x).δ,y∈x.δ:=by
 grind [lU]
def idxOf:List Nat->Nat->Nat->Option Nat
 |[],_,_=>none
 |x::r,t,j=>match Nat.beq t x with|true=>some j|false=>idxOf r t (j+1)
def X8(R:Reg)(i t:Nat):Bool:=match idxOf R.D t 0 with
 |some j=>!(Nat.beq j i||((R.ms.getD i 0).testBit j||(R.ms.getD j 0).testBit i))
 |none=>false
def St.veil(st:St)(R:Reg)(i:Nat):St:={st with tmps:=λt=>match X8 R i t with|true=>.undef|false=>st.tmps t}
def viewAt(R:Reg)(base:St)(acc:List dD)(i:Nat):St:=
 ((match ET R.ms R.E i with
 |true=>after base acc (R.ms.getD i 0).testBit
 |false=>(after base acc (R.ms.getD i 0).testBit).hide R.U).veil R i).aat (adf R.ms i R.A)
def I9(Θ:gY)(Γ:je)(R:Reg)(base:St)(i:Nat)(o:Oper)(d:Nat)(acc:List dD)(K:List dD->Prop):Prop:=
 match xJ Γ o.op with
 |true=>match vZ o.op with
  |true=>match Jy Θ (viewAt R base acc i) o.op with
   |some υ=>match ajA R.D R.U υ with
    |true=>K (acc++[⟨d,.kZ [],υ,[],[]⟩])
    |false=>False
   |none=>False
  |false=>match NG Γ (viewAt R base acc i) o.op with
   |some (p,ρ,os)=>p/\∀t,ρ.R t->match EU R.D R.U d (viewAt R base acc i) os (ρ.out t) (ρ.aJ t)with
    |some (v,υ,δ)=>K (acc++[⟨d,v,υ,δ,[]⟩])
    |none=>False
   |none=>False
 |false=>match Vy o.op with
  |true=>match CQ Θ (viewAt R base acc i) o.op with
   |some (p,q,x)=>match aO R.D (q / 64)&&(!(Nat.beq (q / 64) d)&&Gg R.A i q)with
    |true=>p/\K (acc++[lU R.F ⟨d,.sv (.one (.ref (d*64+1))),[],[(d*64+1,x)],[q]⟩])
    |false=>False
   |none=>False
  |false=>match calm Θ Γ d (viewAt R base acc i) o.op with
   |some (p,v,δ)=>match BB d δ,quiet (viewAt R base acc i) o.op with
    |true,true=>K (acc++[lU R.F ⟨d,v,[],δ,[]⟩])
    |true,false=>p/\K (acc++[lU R.F ⟨d,v,[],δ,[]⟩])
    |false,_=>False
   |none=>False
def fix(g:Nat)(b:Bool)(acc:List dD):List dD:=
 match acc[g]? with
 |some x=>acc.set g {x with v:=.sv (.one (.bool b))}
 |none=>acc
def skipped(d:Nat):dD:=⟨d,.kZ [],[],[],[]⟩
def qU(Θ:gY)(Γ:je)(R:Reg)(base:St)(K:List dD->Prop):Nat->List Oper->List dD->Prop
 |_,[],acc=>K acc
 |i,o::r,acc=>match rq R.n i o,Nat.blt (R.ms.getD i 0) (2 ^ i)with
  |some d,true=>match o.guard with
   |none=>I9 Θ Γ R base i o d acc (qU Θ Γ R base K (i+1) r)
   |some (g,b)=>match (R.ms.getD i 0).testBit g,acc[g]? with
    |true,some x=>match x.v with
     |.sv (.one (.bool c))=>cond c
      (match b with
        |true=>I9 Θ Γ R base i o d (fix g true acc) (qU Θ Γ R base K (i+1) r)
        |false=>qU Θ Γ R base K (i+1) r (fix g true acc++[skipped d]))
      (match b with
        |false=>I9 Θ Γ R base i o d (fix g false acc) (qU Θ Γ R base K (i+1) r)
        |true=>qU Θ Γ R base K (i+1) r (fix g false acc++[skipped d]))
     |.kZ _=>qU Θ Γ R base K (i+1) r (acc++[skipped d])
     |_=>False
    |_,_=>False
  |_,_=>False
def Wanted(R:Reg)(path:List dD)(i:Nat)(o:Oper):Prop:=
 o.guard=none\/∃g b y,o.guard=some (g,b)/\(R.ms.getD i 0).testBit g=true/\path[g]? =some y/\y.v=.sv (.one (.bool b))
def X9(R:Reg)(path:List dD)(i:Nat)(o:Oper):Prop:=
 ∃g b y,o.guard=some (g,b)/\(R.ms.getD i 0).testBit g=true/\path[g]? =some y/\((∃c,y.v=.sv (.one (.bool c))/\c≠b)\/∃vs,y.v=.kZ vs)
def pO(Θ:gY)(Γ:je)(R:Reg)(base:St)(path:List dD)(i:Nat)(o:Oper)(x:dD):Prop:=
 rq R.n i o=some x.d/\(R.ms.getD i 0)<2 ^ i/\
 ((Wanted R path i o/\
    ((xJ Γ o.op=false/\Vy o.op=false/\∃p v δ,calm Θ Γ x.d (viewAt R base path i) o.op=some (p,v,δ)/\p/\BB x.d δ=true/\x=lU R.F ⟨x.d,v,[],δ,[]⟩)\/
     (xJ Γ o.op=false/\Vy o.op=true/\∃p q y,CQ Θ (viewAt R base path i) o.op=some (p,q,y)/\p/\(aO R.D (q / 64)=true/\q / 64≠x.d/\Gg R.A i q=true)/\
       x=lU R.F ⟨x.d,.sv (.one (.ref (x.d*64+1))),[],[(x.d*64+1,y)],[q]⟩)\/
     (xJ Γ o.op=true/\vZ o.op=true/\∃υ,Jy Θ (viewAt R base path i) o.op=some υ/\ajA R.D R.U υ=true/\x=⟨x.d,.kZ [],υ,[],[]⟩)\/
     ((xJ Γ o.op=true/\vZ o.op=false)/\x.k=[]/\∃p ρ os t,NG Γ (viewAt R base path i) o.op=some (p,ρ,os)/\p/\ρ.R t/\
        (∀t,ρ.R t->∃r,EU R.D R.U x.d (viewAt R base path i) os (ρ.out t) (ρ.aJ t)=some r)/\
        EU R.D R.U x.d (viewAt R base path i) os (ρ.out t) (ρ.aJ t)=some (x.v,x.u,x.δ))))\/
  (X9 R path i o/\x=skipped x.d))
def Enabled(Θ:gY)(Γ:je)(R:Reg)(base:St)(path:List dD)(i:Nat)(o:Oper):Prop:=
 ∃d,rq R.n i o=some d/\(R.ms.getD i 0)<2 ^ i/\
 ((Wanted R path i o/\
    ((xJ Γ o.op=false/\Vy o.op=false/\∃p v δ,calm Θ Γ d (viewAt R base path i) o.op=some (p,v,δ)/\p/\BB d δ=true)\/
     (xJ Γ o.op=false/\Vy o.op=true/\∃p q y,CQ Θ (viewAt R base path i) o.op=some (p,q,y)/\p/\(aO R.D (q / 64)=true/\q / 64≠d/\Gg R.A i q=true))\/
     (xJ Γ o.op=true/\vZ o.op=true/\∃υ,Jy Θ (viewAt R base path i) o.op=some υ/\ajA R.D R.U υ=true)\/
     ((xJ Γ o.op=true/\vZ o.op=false)/\∃p ρ os,NG Γ (viewAt R base path i) o.op=some (p,ρ,os)/\p/\
        ∀t,ρ.R t->∃r,EU R.D R.U d (viewAt R base path i) os (ρ.out t) (ρ.aJ t)=some r)))\/
  X9 R path i o)
theorem ag3{g:Nat}{b:Bool}{acc:List dD}{x:dD}(h:acc[g]? =some x)(hv:x.v=.sv (.one (.bool b))):fix g b acc=acc:=by
 unfold fix;rw[h];obtain⟨hlt,hx⟩:=ath.1 h;refine aua λi=>?_;by_cases hi:i=g
 .cases x
  grind
 grind
theorem aeR:∀(l:List dD)(j:Nat)(m:Nat->Bool),(∀i,j<=i->m i=false)->pick l j m=[]
 |[],_,_,_=>rfl
 |x::r,j,m,h=>by rw[pick,h j (as7 _)];exact aeR r (j+1) m λi hi=>h i (by omega)
theorem MC(r:List dD)(m:Nat->Bool):∀(l:List dD)(j:Nat),pick (l++r) j m=pick l j m++pick r (j+l.length) m
 |[],j=>by simp[pick]
 |x::l,j=>by rw[atP,pick,pick,MC r m l (j+1),asY,show j+1+l.length=j+(l.length+1) by omega];cases m j<;>rfl
theorem IG{m:Nat->Bool}:∀(l l':List dD)(j:Nat),(∀i,m (j+i)=true->l[i]? =l'[i]?)->pick l j m=pick l' j m
 |[],[],_,_=>rfl
 |[],y::r,j,h=>by
  cases hm:m j with
  |true=>have:=h 0 (by simpa using hm);simp at this
  |false=>
   rw[pick,pick,hm];exact IG [] r (j+1) λi hi=>by have:=h (i+1) (by rw[show j+(i+1)=j+1+i by omega];exact hi);simpa using this
 |x::l,[],j,h=>by
  cases hm:m j with
  |true=>have:=h 0 (by simpa using hm);simp at this
  |false=>
   rw[pick,pick,hm];exact IG l [] (j+1) λi hi=>by have:=h (i+1) (by rw[show j+(i+1)=j+1+i by omega];exact hi);simpa using this
 |x::l,y::r,j,h=>by
  have ih:=IG l r (j+1) λi hi=>by have:=h (i+1) (by rw[show j+(i+1)=j+1+i by omega];exact hi);grind
  rw[pick,pick];cases hm:m j with
  |true=>have:=h 0 (by simpa using hm);grind
  |false=>exact ih
theorem mP{m:Nat->Bool}{x:dD}:∀(l:List dD)(j:Nat),x∈pick l j m↔∃i,m (j+i)=true/\l[i]? =some x
 |[],j=>by simp[pick]
 |y::l,j=>by
  have ih:=mP (m:=m) (x:=x) l (j+1);rw[pick];cases hm:m j with
  |true=>
   simp only[atw,ih];constructor
   .rintro(rfl|⟨i,h1,h2⟩)
    .exact⟨0,by simpa using hm,rfl⟩
    .exact⟨i+1,by grind,by simpa using h2⟩
   grind
  |false=>
   simp only[ih];constructor
   .rintro⟨i,h1,h2⟩;exact⟨i+1,by grind,by simpa using h2⟩
   grind
theorem oH{m i j:Nat}(h:m<2 ^ i)(hj:i<=j):m.testBit j=false:=
 Nat.testBit_lt_two_pow (ati h (Nat.pow_le_pow_right (by decide) hj))
theorem Jz{R:Reg}{base:St}{l l':List dD}{i:Nat}(h:∀j,(R.ms.getD i 0).testBit j=true->l[j]? =l'[j]?):viewAt R base l i=viewAt R base l' i:=by
 grind [viewAt,after,IG]
theorem pO.agree{R:Reg}{base:St}{l l':List dD}{i:Nat}{o:Oper}{x:dD}(h:∀j,(R.ms.getD i 0).testBit j=true->l[j]? =l'[j]?)(hr:pO Θ Γ R base l i o x):pO Θ Γ R base l' i o x:=by
 obtain⟨h1,h2,h3⟩:=hr;refine⟨h1,h2,?_⟩;rw[← Jz h];refine h3.imp (And.imp (Or.imp id ?_) id) (And.imp ?_ id)
 · grind
 .rintro⟨g,b,y,e1,e2,e3,e4⟩;exact⟨g,b,y,e1,e2,h g e2▸e3,e4⟩
theorem Enabled.agree{R:Reg}{base:St}{l l':List dD}{i:Nat}{o:Oper}(h:∀j,(R.ms.getD i 0).testBit j=true->l[j]? =l'[j]?)(hr:Enabled Θ Γ R base l i o):Enabled Θ Γ R base l' i o:=by
 obtain⟨d,h1,h2,h3⟩:=hr;refine⟨d,h1,h2,?_⟩;rw[← Jz h];refine h3.imp (And.imp (Or.imp id ?_) id) ?_
 · grind
 .rintro⟨g,b,y,e1,e2,e3,e4⟩;exact⟨g,b,y,e1,e2,h g e2▸e3,e4⟩
theorem qC{l:List Nat}{x:Nat}:aO l x=true↔x∈l:=by
 induction l with
 |nil=>simp[aO]
 |cons y l ih=>
  rw[aO,atw];cases hb:Nat.beq x y with
  |true=>simp_all
  |false=>
   simp only[ih];constructor
   .exact .inr
   .rintro(rfl|h)
    .simp at hb
    .exact h
theorem aau{n:Nat}{o:Oper}{d:Nat}:∀(l:List Oper)(i j:Nat),l[j]? =some o->rq n (i+j) o=some d->d∈dstsOf n i l
 |[],_,_,ho,_=>by simp at ho
 |x::r,i,0,ho,hd=>by
  grind [dstsOf]
 |x::r,i,j+1,ho,hd=>by
  have:=aau r (i+1) j (by simpa using ho) (by rw[show i+1+j=i+(j+1) by omega];exact hd);rw[dstsOf];split
  .exact as8 _ this
  .exact this
def Ya(Θ:gY)(Γ:je)(R:Reg)(base:St)(ops:List Oper)(path:List dD):Prop:=
 ∀i o x,ops[i]? =some o->path[i]? =some x->pO Θ Γ R base path i o x
theorem ajB{acc ext:List dD}{j:Nat}(h:j<acc.length):(acc++ext)[j]? =acc[j]? :=auh h
theorem Xf{R:Reg}{base:St}{K:List dD->Prop}:∀(rest pre:List Oper)(acc ext:List dD),acc.length=pre.length->ext.length<=rest.length->
 qU Θ Γ R base K pre.length rest acc->Ya Θ Γ R base (pre++rest) (acc++ext)->
 (ext.length=rest.length->K (acc++ext))/\∀o,rest[ext.length]? =some o->Enabled Θ Γ R base (acc++ext) (pre.length+ext.length) o
 |[],pre,acc,ext,hl,hle,hr,hc=>by
  simp_all [qU]
 |o::rest,pre,acc,ext,hl,hle,hr,hc=>by
  rw[qU]at hr;split at hr
  case h_2=>exact hr.elim
  next d hd hm=>
  have hm':R.ms.getD pre.length 0<2 ^ pre.length:=by simp_all
  have key:(Wanted R acc pre.length o/\I9 Θ Γ R base pre.length o d acc (qU Θ Γ R base K (pre.length+1) rest))\/
   (X9 R acc pre.length o/\qU Θ Γ R base K (pre.length+1) rest (acc++[skipped d])):=by
   split at hr
   .next hg=>exact .inl ⟨.inl hg,hr⟩
   .next g b hg=>
    split at hr
    .next x hbit hx=>
     split at hr
     .next c hc'=>
      cases c
      .simp only[auF,ag3 hx hc']at hr;cases b
       .exact .inl ⟨.inr ⟨g,false,x,hg,hbit,hx,hc'⟩,hr⟩
       .exact .inr ⟨⟨g,true,x,hg,hbit,hx,.inl ⟨false,hc',by simp⟩⟩,hr⟩
      .simp only[avh,ag3 hx hc']at hr;cases b
       .exact .inr ⟨⟨g,false,x,hg,hbit,hx,.inl ⟨true,hc',by simp⟩⟩,hr⟩
       .exact .inl ⟨.inr ⟨g,true,x,hg,hbit,hx,hc'⟩,hr⟩
     .next vs hc'=>exact .inr ⟨⟨g,b,x,hg,hbit,hx,.inr ⟨vs,hc'⟩⟩,hr⟩
     grind
    grind
  have ak1:∀ext:List dD,∀j,(R.ms.getD pre.length 0).testBit j=true->acc[j]? =(acc++ext)[j]? :=by
   grind [oH]
  cases ext with
  |nil=>
   refine⟨λh=>by simp at h,λo' ho'=>?_⟩;have:o'=o:=by grind
   subst this;rw[atM];simp only[as6,auE];refine⟨d,hd,hm',?_⟩;rcases key with⟨hw,hs⟩|⟨hw,_⟩
   .refine .inl ⟨hw,?_⟩;unfold I9 at hs;split at hs
    · grind
    grind [Nat.beq_refl,OO]
   grind
  |cons x ext=>
   have hx:pO Θ Γ R base (acc++x::ext) pre.length o x:=by
    refine hc pre.length o x ?_ ?_
    · grind
    grind
   obtain⟨e1,_,e3⟩:=hx;have hxd:x.d=d:=by grind
   have apl:viewAt R base acc pre.length=viewAt R base (acc++x::ext) pre.length:=Jz (ak1 _);have hnext:qU Θ Γ R base K (pre.length+1) rest (acc++[x]):=by
    rcases key with⟨hw,hs⟩|⟨hw,hs⟩
    .rcases e3 with⟨_,e3⟩|⟨⟨g,b,y,f1,f2,f3,f4⟩,_⟩
     .rw[← apl,hxd]at e3;unfold I9 at hs;rcases e3 with⟨he,ha,p,v,δ,hcalm,_,hn,hxx⟩|⟨he,ha,p,q,y,happ,_,_,hxx⟩|⟨he,hst,υ,hυ,hin,hxx⟩|⟨⟨he,hst⟩,hk,p,ρ,os,t,hrel,_,ht,_,hres⟩
      .rw[he,ha]at hs;simp only[hcalm]at hs;split at hs
       · grind
       · grind
       grind
      · grind
      · grind
      .rw[he,hst]at hs;simp only[hrel]at hs;have h2:=hs.2 t ht;simp only[hres]at h2;have ex:x=⟨d,x.v,x.u,x.δ,[]⟩:=by cases x;grind
       grind
     .exfalso;rw[← ak1 _ g f2]at f3;rcases hw with hw|⟨g',b',y',k1,k2,k3,k4⟩
      · grind
      grind
    .rcases e3 with⟨hw',_⟩|⟨_,f1⟩
     .exfalso;obtain⟨g,b,y,k1,k2,k3,k4⟩:=hw;rcases hw' with hw'|⟨g',b',y',l1,l2,l3,l4⟩
      · grind
      grind
     grind
   have ih:=Xf rest (pre++[o]) (acc++[x]) ext (by simp[hl]) (by simpa using hle) (by simpa using hnext) (by simpa using hc);simp only[atz,List.singleton_append,as4,asY,as6]at ih;refine⟨λh=>ih.1 (by simpa using h),λo' ho'=>?_⟩;have:=ih.2 o' (by simpa using ho');rw[show pre.length+(0+1)+ext.length=pre.length+(ext.length+1) by omega]at this;omega
theorem DC(acc:List Nat)(j:Nat):∀(es:List Edge),(Ad acc es).testBit j=true↔∃e∈es,Region.binds .any e=true/\(e.on=j\/(acc.getD e.on 0).testBit j=true)
 |[]=>by simp[Ad]
 |e::r=>by
  rw[Ad];cases hb:Region.binds .any e with
  |false=>
   simp only[DC acc j r,atw];constructor
   .rintro⟨e',h1,h2⟩;exact⟨e',.inr h1,h2⟩
   .rintro⟨e',rfl|h1,h2⟩
    .rw[hb]at h2;cases h2.1
    .exact⟨e',h1,h2⟩
  |true=>
   simp only[Nat.testBit_or,auD,DC acc j r,atw,Nat.testBit_two_pow,ate];constructor
   .rintro((h|h)|⟨e',h1,h2⟩)
    .exact⟨e,.inl rfl,hb,.inl h⟩
    .exact⟨e,.inl rfl,hb,.inr h⟩
    .exact⟨e',.inr h1,h2⟩
   .rintro⟨e',rfl|h1,h2⟩
    .exact .inl h2.2
    .exact .inr ⟨e',h1,h2⟩
theorem OX:∀(l:List Oper)(acc:List Nat)(i:Nat),i<acc.length->(masks l acc).getD i 0=acc.getD i 0
 |[],_,_,_=>rfl
 |o::r,acc,i,h=>by rw[masks,OX r _ i (by simp;omega)];simp[atn,auh h]
theorem OY:∀(l:List Oper)(acc:List Nat)(i:Nat)(o:Oper),l[i]? =some o->∃acc',(masks l acc).getD (acc.length+i) 0=Ad acc' o.after.toList/\
 (∀j,j<acc'.length->(masks l acc).getD j 0=acc'.getD j 0)
 |[],_,_,_,h=>by simp at h
 |o::r,acc,0,o',h=>by
  refine⟨acc,?_,λj hj=>?_⟩
  · grind [masks,OX]
  grind [OX]
 |o::r,acc,i+1,o',h=>by
  obtain⟨acc',h1,h2⟩:=OY r (acc++[Ad acc o.after.toList]) i o' (by simpa using h)
  grind [masks]
theorem aeS{ops:List Oper}{i:Nat}{o:Oper}(ho:ops[i]? =some o){e:Edge}(he:e∈o.after)(hb:Region.binds .any e=true):((masks ops []).getD i 0).testBit e.on=true:=by
 obtain⟨acc',h1,_⟩:=OY ops [] i o ho
 grind [DC]
theorem ak2{ops:List Oper}{i:Nat}{o:Oper}(ho:ops[i]? =some o){j:Nat}(hj:((masks ops []).getD i 0).testBit j=true):
 ∃e∈o.after,Region.binds .any e=true/\(e.on=j\/((masks ops []).getD e.on 0).testBit j=true):=by
 obtain⟨acc',h1,h2⟩:=OY ops [] i o ho
 grind [DC]
def Eg(L:Nat->Bool):Nat->Nat
 |0=>0
 |n+1=>(match L n with|true=>0|false=>1)+Eg L n
theorem aeT{L L':Nat->Bool}:∀(n:Nat),(∀i,i<n->L i=L' i)->Eg L n=Eg L' n
 |0,_=>rfl
 |n+1,h=>by rw[Eg,Eg,h n (by omega),aeT n λi hi=>h i (by omega)]
theorem aiN{L L':Nat->Bool}{i:Nat}(hi:L i=false)(hi':L' i=true)(h:∀j,j≠i->L' j=L j):∀(n:Nat),i<n->Eg L' n+1=Eg L n
 |0,hn=>by omega
 |n+1,hn=>by
  rw[Eg,Eg];by_cases e:n=i
  · grind [aeT]
  .have:=aiN hi hi' h n (by omega)
   grind
theorem ag4{L:Nat->Bool}:∀(n:Nat),Eg L n=0->∀i,i<n->L i=true
 |0,_,i,hi=>by omega
 |n+1,h,i,hi=>by
  rw[Eg]at h;cases hl:L n with
  |false=>grind
  |true=>
   by_cases e:i=n
   · grind
   .exact ag4 n (by omega) i (by omega)
theorem least{p:Nat->Prop}[DecidablePred p]:∀(n:Nat),(∃i,i<n/\p i)->∃i,i<n/\p i/\∀j,j<i->¬p j:=by
 intro n
 induction n using Nat.strongRecOn with
 |_ n ih=>
  rintro⟨i,hi,hp⟩;by_cases h:∃j,j<i/\p j
  · grind
  grind
structure Fits(D U:List Nat)(l:List dD):Prop where
 one:∀x∈l,∀y∈l,x.d=y.d->x=y
 mem:∀x∈l,aO D x.d=true
 new:∀x∈l,BB x.d x.δ=true
 upd:∀x∈l,∀o y,look x.u o=some y->aO U o=true/\aO D (o / 64)=false
theorem qE{d:Nat}{δ:List (Nat×aB)}(h:BB d δ=true){o:Nat}{y:aB}(hl:look δ o=some y):o / 64=d:=
 asX (atq.1 h _ (uG δ o y hl))
theorem aav{t:Nat}{b:AV}:∀(l:List dD),(∀x∈l,x.d≠t)->vz l t b=b
 |[],_=>rfl
 |x::r,h=>by
  rw[vz];have:Nat.beq t x.d=false:=by
   cases hb:Nat.beq t x.d with
   |false=>rfl
   |true=>exact(h x as9 (asX hb).symm).elim
  rw[this];exact aav r λy hy=>h y (as8 _ hy)
theorem Tq{b:AV}{x:dD}:∀(l:List dD),x∈l->(∀y∈l,x.d=y.d->x=y)->vz l x.d b=x.v
 |[],h,_=>by cases h
 |y::r,h,hu=>by
  rw[vz];cases hb:Nat.beq x.d y.d with
  |true=>simp_all
  |false=>
   rcases atw.1 h with rfl|h
   .simp at hb
   .exact Tq r h λz hz=>hu z (as8 _ hz)
theorem II{o:Nat}{b:Option aB}:∀(l:List dD),(∀x∈l,look x.δ o=none)->lookO l o b=b
 |[],_=>rfl
 |x::r,h=>by rw[lookO,h x as9];exact II r λy hy=>h y (as8 _ hy)
theorem aeU{o:Nat}{b:Option aB}{x:dD}{z:aB}:∀(l:List dD),x∈l->look x.δ o=some z->(∀y∈l,∀z',look y.δ o=some z'->x=y)->lookO l o b=some z
 |[],h,_,_=>by cases h
 |y::r,h,hz,hu=>by
  rw[lookO];cases hy:look y.δ o with
  |some z'=>have:=hu y as9 z' hy;subst this;rw[hz]at hy;exact hy.symm
  |none=>
   rcases atw.1 h with rfl|h
   .rw[hz]at hy;cases hy
   .exact aeU r h hz λw hw=>hu w (as8 _ hw)
theorem EW{o:Nat}:∀(l:List dD),(∀x∈l,look x.u o=none)->oG l o=none
 |[],_=>rfl
 |x::r,h=>by rw[oG,EW r λy hy=>h y (as8 _ hy)];exact h x as9
theorem JA{o:Nat}(r:List dD):∀(l:List dD),oG (l++r) o=match oG r o with|some y=>some y|none=>oG l o
 |[]=>by grind [oG]
 |x::l=>by rw[atP,oG,JA r l,oG];cases oG r o<;>rfl
theorem Xg{o:Nat}{m m':Nat->Bool}:∀(l:List dD)(j:Nat),(∀i x,l[i]? =some x->x.u≠[]->m (j+i)=m' (j+i))->oG (pick l j m) o=oG (pick l j m') o
 |[],_,_=>rfl
 |x::r,j,h=>by
  have ih:=Xg (o:=o) (m:=m) (m':=m') r (j+1) (λi y hi hy=>by
   have:=h (i+1) y (by simpa using hi) hy
   grind)
  have h0:=h 0 x rfl;rw[pick,pick];cases hm:m j<;>cases hm':m' j
  .exact ih
  · grind [oG,look]
  · grind [oG,look]
  grind [oG]
theorem Xh{x:dD}{t:Nat}{b:AV}(r:List dD):∀(l:List dD),(∀y∈l,y.d≠x.d)->vz (l++x::r) t b=match Nat.beq t x.d with|true=>x.v|false=>vz (l++r) t b
 |[],_=>by grind [vz]
 |y::l,h=>by
  rw[atP,atP,vz,Xh r l λz hz=>h z (as8 _ hz),vz];cases hb:Nat.beq t y.d with
  |false=>rfl
  |true=>
   have:Nat.beq t x.d=false:=by
    cases hb2:Nat.beq t x.d with
    |false=>rfl
    |true=>exact(h y as9 ((asX hb).symm.trans (asX hb2))).elim
   rw[this]
theorem Xi{x:dD}{o:Nat}{b:Option aB}(r:List dD):∀(l:List dD),(∀y∈l,∀z z',look y.δ o=some z->look x.δ o=some z'->False)->
 lookO (l++x::r) o b=match look x.δ o with|some y=>some y|none=>lookO (l++r) o b
 |[],_=>by grind [lookO]
 |y::l,h=>by
  rw[atP,atP,lookO,Xi r l λz hz=>h z (as8 _ hz),lookO];cases hy:look y.δ o with
  |none=>rfl
  |some z=>
   cases hx:look x.δ o with
   |none=>rfl
   |some z'=>exact(h y as9 z z' hy hx).elim
theorem aid{base:St}{D U:List Nat}{l r:List dD}{x:dD}(hf:Fits D U (l++x::r))(hne:∀y∈l++r,y.d≠x.d)(hu:x.u≠[]->∀y∈r,y.u=[]):
 (((lg base (l++r)).adds x.u).adds x.δ).set x.d x.v=lg base (l++x::r):=by
 have hx:x∈l++x::r:=by simp
 have hsub:∀y∈l++r,y∈l++x::r:=λy hy=>by
  grind
 have e1:(((lg base (l++r)).adds x.u).adds x.δ).set x.d x.v={n:=base.n,tmps:=λt=>match Nat.beq t x.d with|true=>x.v|false=>vz (l++r) t (base.tmps t),ah:=(((lg base (l++r)).adds x.u).adds x.δ).ah}:=by rw[Vq,Vq (lg base (l++r)) x.u];rfl
 rw[e1];congr 1
 · grind [Xh]
 · funext o
   rw[qK,qK];have hO:=Xi (x:=x) (o:=o) (b:=base.ah o) r l λy hy z z' hz hz'=>hne y (atK _ hy) ((qE (hf.new y (hsub y (atK _ hy))) hz).symm.trans (qE (hf.new x hx) hz'));have hU:oG (l++x::r) o=match look x.u o with|some y=>some y|none=>oG (l++r) o:=by
    rw[JA,JA,oG];by_cases hxu:x.u=[]
    · grind [look]
    .rw[EW r λy hy=>by rw[hu hxu y hy];rfl]
   rw[hO,hU];cases hδ:look x.δ o with
   |none=>cases look x.u o<;>rfl
   |some z=>
    have hod:aO D (o / 64)=true:=by rw[qE (hf.new x hx) hδ];exact hf.mem x hx
    have nou:∀y∈l++x::r,look y.u o=none:=λy hy=>by
     cases hl:look y.u o with
     |none=>rfl
     |some w=>have:=(hf.upd y hy o w hl).2;grind
    grind [EW]
theorem qF{o:Nat}:∀(l:List dD),aO (nR l) o=true↔∃x∈l,o∈x.k
 |[]=>by simp[nR,aO]
 |x::r=>by
  rw[qC,nR,atA,← qC (l:=nR r),qF r];constructor
  .rintro(h|⟨y,hy,h⟩)
   .exact⟨x,as9,h⟩
   .exact⟨y,as8 _ hy,h⟩
  .rintro⟨y,hy,h⟩;rcases atw.1 hy with rfl|hy
   .exact .inl h
   .exact .inr ⟨y,hy,h⟩
theorem Cell.wu{S:Nat->Bool}(h:∀o,S o=false):∀(c:Cell),c.kill S=c
 |.int _ _|.bool _|.str _|.nil|.sl _ _ _ _|.junk=>rfl
 |.ref o=>by grind [Cell.kill]
theorem Cell.oU{S S' S2:Nat->Bool}(h:∀o,S2 o=(S o||S' o)):∀(c:Cell),(c.kill S).kill S'=c.kill S2
 |.int _ _|.bool _|.str _|.nil|.sl _ _ _ _|.junk=>rfl
 |.ref o=>by
  grind [Cell.kill]
theorem zH{S S' S2:Nat->Bool}(h:∀o,S2 o=(S o||S' o))(cs:List Cell):(cs.map (Cell.kill S)).map (Cell.kill S')=cs.map (Cell.kill S2):=by
 rw[aud]
 grind [List.map_congr_left,Cell.oU]
theorem SV.oU{S S' S2:Nat->Bool}(h:∀o,S2 o=(S o||S' o)):∀(c:SV),(c.kill S).kill S'=c.kill S2
 |.one c=>by grind [SV.kill,Cell.oU]
 |.agg cs=>by simp only[SV.kill,zH h]
theorem AV.oU{S S' S2:Nat->Bool}(h:∀o,S2 o=(S o||S' o)):∀(c:AV),(c.kill S).kill S'=c.kill S2
 |.undef=>rfl
 |.sv v=>by grind [AV.kill,SV.oU]
 |.kZ vs=>by
  simp only[AV.kill];rw[aud,List.map_congr_left λc _=>(show((SV.kill S') ∘ (SV.kill S)) c=SV.kill S2 c from SV.oU h c)]
 |.eG o off=>by
  grind [AV.kill]
 |.lI o i off=>by
  grind [AV.kill]
 |.win o i off=>by
  grind [AV.kill]
 |.nH _ _ _ _=>rfl
 |.dA cs off=>by simp only[AV.kill,zH h]
 |.fn g caps=>by simp only[AV.kill];rw[aud,List.map_congr_left λc _=>(show((List.map (Cell.kill S')) ∘ (List.map (Cell.kill S))) c=List.map (Cell.kill S2) c from zH h c)]
theorem aB.oU{S S' S2:Nat->Bool}(h:∀o,S2 o=(S o||S' o)):∀(c:aB),(c.kill S).kill S'=c.kill S2
 |.var cs=>by simp only[aB.kill,zH h]
 |.arr _ _ _ _=>rfl
theorem St.oU{S S' S2:Nat->Bool}(h:∀o,S2 o=(S o||S' o))(st:St):(st.kill S).kill S'=st.kill S2:=by
 simp only[St.kill,St.mk.injEq,auZ];refine⟨funext λt=>AV.oU h _,funext λo=>?_⟩;simp only[h o];cases S' o with
 |true=>cases S o<;>rfl
 |false=>
  cases S o with
  |true=>rfl
  |false=>
   cases st.ah o with
   |none=>rfl
   |some y=>grind [aB.oU]
theorem DF{S:Nat->Bool}(h:∀o,S o=false)(cs:List Cell):cs.map (Cell.kill S)=cs:=by rw[show Cell.kill S=id from funext (Cell.wu h),auL]
theorem SV.wu{S:Nat->Bool}(h:∀o,S o=false):∀(c:SV),c.kill S=c
 |.one c=>by grind [SV.kill,Cell.wu]
 |.agg cs=>by grind [SV.kill,DF]
theorem AV.wu{S:Nat->Bool}(h:∀o,S o=false):∀(c:AV),c.kill S=c
 |.undef=>rfl
 |.sv v=>by grind [AV.kill,SV.wu]
 |.kZ vs=>by simp only[AV.kill];rw[show SV.kill S=id from funext (SV.wu h),auL]
 |.eG o off=>by grind [AV.kill]
 |.lI o i off=>by grind [AV.kill]
 |.win o i off=>by grind [AV.kill]
 |.nH _ _ _ _=>rfl
 |.dA cs off=>by grind [AV.kill,DF]
 |.fn g caps=>by simp only[AV.kill];rw[show List.map (Cell.kill S)=id from funext (DF h),auL]
theorem aB.wu{S:Nat->Bool}(h:∀o,S o=false):∀(c:aB),c.kill S=c
 |.var cs=>by grind [aB.kill,DF]
 |.arr _ _ _ _=>rfl
theorem St.wu{S:Nat->Bool}(h:∀o,S o=false)(st:St):st.kill S=st:=by
 cases st with
 |mk n t o=>
  simp only[St.kill,St.mk.injEq,auZ];refine⟨funext λq=>AV.wu h _,funext λq=>?_⟩;simp only[h q];cases o q with
  |none=>rfl
  |some y=>grind [aB.wu]
theorem mQ(l:List Nat)(st:St):qB l st=st.kill (aO l):=by
 cases l with
 |nil=>exact(St.wu (λ_=>rfl) st).symm
 |cons=>rfl
theorem Rel.qB(h:Rel w0 M T γ st a w)(l:List Nat):Rel w0 M T γ (qB l st) a w:=by rw[mQ];exact h.kill _
theorem Cell.rC{X:V}{S:Nat->Bool}(h:∀o,S o=true->X.ah o=none):∀(c:Cell)(v:Value),aK X c v->c.kill S=c
 |.int _ _,_,_|.bool _,_,_|.str _,_,_|.nil,_,_|.sl _ _ _ _,_,_|.junk,_,_=>rfl
 |.ref o,v,⟨⟨e,r,l,fr,ho⟩,_⟩=>by
  grind [Cell.kill]
theorem wz{X:V}{S:Nat->Bool}(h:∀o,S o=true->X.ah o=none):∀(cs:List Cell)(vs:List Value),ai X cs vs->cs.map (Cell.kill S)=cs
 |[],[],_=>rfl
 |c::cs,v::vs,H=>by rw[att,Cell.rC h c v H.1,wz h cs vs H.2]
 |[],_::_,H|_::_,[],H=>by cases H
theorem SV.rC{X:V}{S:Nat->Bool}(h:∀o,S o=true->X.ah o=none):∀(c:SV)(v:Value),dw X c v->c.kill S=c
 |.one c,v,H=>by rw[SV.kill,Cell.rC h c v H]
 |.agg cs,v,⟨vs,_,H⟩=>by grind [SV.kill,wz]
theorem Tt{X:V}{S:Nat->Bool}(h:∀o,S o=true->X.ah o=none):∀(cs:List SV)(vs:List Value),dB X cs vs->cs.map (SV.kill S)=cs
 |[],[],_=>rfl
 |c::cs,v::vs,H=>by rw[att,SV.rC h c v H.1,Tt h cs vs H.2]
 |[],_::_,H|_::_,[],H=>by cases H
theorem Qs{X:V}{S:Nat->Bool}(h:∀o,S o=true->X.ah o=none):∀(l:List (List Cell))(us:List Value),dS X l us->l.map (List.map (Cell.kill S))=l
 |[],[],_=>rfl
 |cs::l,u::us,⟨⟨b,_,arr,t,fz,_,_,H⟩,H2⟩=>by rw[att,wz h cs _ H,Qs h l us H2]
 |[],_::_,H|_::_,[],H=>by cases H
theorem AV.rC{X:V}{S:Nat->Bool}(h:∀o,S o=true->X.ah o=none):∀(c:AV)(v:Value),aQ X c v->c.kill S=c
 |.undef,_,_=>rfl
 |.sv x,v,H=>by rw[AV.kill,SV.rC h x v H]
 |.kZ xs,v,⟨vs,_,H⟩=>by grind [AV.kill,Tt]
 |.eG o off,v,⟨b,cs,ho,_⟩=>by
  grind [AV.kill]
 |.lI o i off,v,⟨b,n,cap,e,r,l,fr,ho,_⟩=>by
  grind [AV.kill]
 |.win o i off,v,⟨b,n,cap,e,r,l,fr,ho,_⟩=>by
  grind [AV.kill]
 |.nH _ _ _ _,_,_=>rfl
 |.dA cs off,v,⟨b,_,arr,t,fz,_,_,H⟩=>by grind [AV.kill,wz]
 |.fn f caps,v,⟨us,_,H⟩=>by grind [AV.kill,Qs]
theorem aB.rC{X:V}{S:Nat->Bool}(h:∀o,S o=true->X.ah o=none){o:Nat}:∀(x:aB),bD X o x->x.kill S=x
 |.var cs,⟨b,ar,t,_,_,H⟩=>by grind [aB.kill,wz]
 |.arr _ _ _ _,_=>rfl
theorem Cell.qG{S S' H:Nat->Bool}(h1:∀o,S o=true->S' o=true)(h2:∀o,S' o=true->S o=true\/H o=true):∀(c:Cell),(c.kill S).touch H=false->c.kill S'=c.kill S
 |.int _ _,_|.bool _,_|.str _,_|.nil,_|.sl _ _ _ _,_|.junk,_=>rfl
 |.ref o,ht=>by
  simp only[Cell.kill]at ht ⊢;cases hs:S o with
  |true=>rw[h1 o hs]
  |false=>
   rw[hs]at ht;have ht:H o=false:=ht
   grind
theorem rD{S S' H:Nat->Bool}(h1:∀o,S o=true->S' o=true)(h2:∀o,S' o=true->S o=true\/H o=true):∀(cs:List Cell),(cs.map (Cell.kill S)).any (Cell.touch H)=false->cs.map (Cell.kill S')=cs.map (Cell.kill S)
 |[],_=>rfl
 |c::cs,ht=>by rw[att,List.any_cons,auv]at ht;rw[att,att,Cell.qG h1 h2 c ht.1,rD h1 h2 cs ht.2]
theorem SV.qG{S S' H:Nat->Bool}(h1:∀o,S o=true->S' o=true)(h2:∀o,S' o=true->S o=true\/H o=true):∀(c:SV),(c.kill S).touch H=false->c.kill S'=c.kill S
 |.one c,ht=>by simp only[SV.kill];rw[Cell.qG h1 h2 c ht]
 |.agg cs,ht=>by simp only[SV.kill];rw[rD h1 h2 cs ht]
theorem NH{S S' H:Nat->Bool}(h1:∀o,S o=true->S' o=true)(h2:∀o,S' o=true->S o=true\/H o=true):∀(cs:List SV),(cs.map (SV.kill S)).any (SV.touch H)=false->cs.map (SV.kill S')=cs.map (SV.kill S)
 |[],_=>rfl
 |c::cs,ht=>by rw[att,List.any_cons,auv]at ht;rw[att,att,SV.qG h1 h2 c ht.1,NH h1 h2 cs ht.2]
theorem KT{S S' H:Nat->Bool}(h1:∀o,S o=true->S' o=true)(h2:∀o,S' o=true->S o=true\/H o=true):∀(l:List (List Cell)),((l.map (List.map (Cell.kill S))).any λcs=>cs.any (Cell.touch H))=false->l.map (List.map (Cell.kill S'))=l.map (List.map (Cell.kill S))
 |[],_=>rfl
 |c::cs,ht=>by rw[att,List.any_cons,auv]at ht;rw[att,att,rD h1 h2 c ht.1,KT h1 h2 cs ht.2]
theorem AV.qG{S S' H:Nat->Bool}(h1:∀o,S o=true->S' o=true)(h2:∀o,S' o=true->S o=true\/H o=true):∀(c:AV),(c.kill S).touch H=false->c.kill S'=c.kill S
 |.undef,_=>rfl
 |.sv v,ht=>by simp only[AV.kill];rw[SV.qG h1 h2 v ht]
 |.kZ vs,ht=>by simp only[AV.kill];rw[NH h1 h2 vs ht]
 |.eG o off,ht=>by
  simp only[AV.kill]at ht ⊢;cases hs:S o with
  |true=>rw[h1 o hs]
  |false=>
   rw[hs]at ht;have ht:H o=false:=ht
   grind
 |.lI o i off,ht=>by
  simp only[AV.kill]at ht ⊢;cases hs:S o with
  |true=>rw[h1 o hs]
  |false=>
   rw[hs]at ht;have ht:H o=false:=ht
   grind
 |.win o i off,ht=>by
  simp only[AV.kill]at ht ⊢;cases hs:S o with
  |true=>rw[h1 o hs]
  |false=>
   rw[hs]at ht;have ht:H o=false:=ht
   grind
 |.nH _ _ _ _,_=>rfl
 |.dA cs off,ht=>by simp only[AV.kill];rw[rD h1 h2 cs ht]
 |.fn g caps,ht=>by simp only[AV.kill];rw[KT h1 h2 caps ht]
theorem aB.qG{S S' H:Nat->Bool}(h1:∀o,S o=true->S' o=true)(h2:∀o,S' o=true->S o=true\/H o=true):∀(c:aB),(c.kill S).touch H=false->c.kill S'=c.kill S
 |.var cs,ht=>by simp only[aB.kill];rw[rD h1 h2 cs ht]
 |.arr _ _ _ _,_=>rfl
theorem ajC{v s:St}{lv lp hd:List Nat}(h:v.more s)(h1:∀o,aO lv o=true->aO lp o=true)(h2:∀o,aO lp o=true->aO lv o=true\/aO hd o=true):
 ((qB lv v).aat hd).more (qB lp s):=by
 have hc:∀(s:St),s.aat hd={n:=s.n,tmps:=(λt=>match (s.tmps t).touch (aO hd)with|true=>.undef|false=>s.tmps t),ah:=(λo=>match aO hd o with|true=>none|false=>match s.ah o with|some x=>(match x.touch (aO hd)with|true=>none|false=>some x)|none=>none)}:=by
  intro s;cases hd with
  |cons=>rfl
  |nil=>
   have t0:∀c:Cell,c.touch (aO [])=false:=λc=>by cases c<;>rfl
   have t1:∀cs:List Cell,cs.any (Cell.touch (aO []))=false:=λcs=>by grind
   have t2:∀c:SV,c.touch (aO [])=false:=λc=>by cases c with|one c=>exact t0 c|agg cs=>exact t1 cs
   have t3:∀c:AV,c.touch (aO [])=false:=λc=>by
    cases c with
    |sv v=>exact t2 v
    |kZ vs=>show vs.any (SV.touch (aO []))=false;grind
    |dA cs off=>exact t1 cs
    |fn g caps=>show(caps.any λcs=>cs.any (Cell.touch (aO [])))=false;grind
    |_=>rfl
   have t4:∀c:aB,c.touch (aO [])=false:=λc=>by cases c with|var cs=>exact t1 cs|arr _ _ _ _=>rfl
   cases s with
   |mk n t o=>
    simp only[St.aat,St.mk.injEq,auZ]
    grind [aO]
 rw[hc,mQ,mQ];refine⟨λt=>?_,λo y hy=>?_⟩
 .dsimp only[St.kill];cases ht:((v.tmps t).kill (aO lv)).touch (aO hd)with
  |true=>exact .inl rfl
  |false=>
   rcases h.tmps t with e|e
   .rw[e];exact .inl rfl
   grind [AV.qG]
 .dsimp only[St.kill]at hy ⊢;split at hy
  .cases hy
  .next hh=>
   split at hy
   .next x hx=>
    split at hx
    .cases hx
    .next hl=>
     cases hvo:v.ah o with
     |none=>grind
     |some y0=>
      split at hy
      .cases hy
      .next ht=>
       have hlp:aO lp o=false:=by
        grind
       rw[hlp,h.ah o _ hvo]
       grind [aB.qG]
   .cases hy
theorem ajD{base:St}{D U:List Nat}{path:List dD}{L L':Nat->Bool}{i:Nat}{x:dD}(hi:i<path.length)(hL:L i=false)(hL':L' i=true)(h:∀j,j≠i->L' j=L j)
 (hf:Fits D U (pick (path.set i x) 0 L')) (hne:∀y∈pick path 0 L,y.d≠x.d) (hu:x.u≠[]->∀j y,i<j->L j=true->path[j]? =some y->y.u=[]):
 (((lg base (pick path 0 L)).adds x.u).adds x.δ).set x.d x.v=lg base (pick (path.set i x) 0 L')/\(∀o,aO (nR (pick (path.set i x) 0 L')) o=(aO (nR (pick path 0 L)) o||aO x.k o)):=by
 have hsplit:path=path.take i++path[i]::path.drop (i+1):=by simp_all
 have p1:pick path 0 L=pick (path.take i) 0 L++pick (path.drop (i+1)) (i+1) L:=by
  grind [MC,pick]
 have asq:∀(l:List dD)(j:Nat),(∀k,k<l.length->j+k≠i)->pick l j L'=pick l j L:=by
  intro l
  induction l with
  |nil=>intros;rfl
  |cons y l ih=>intro j hj;rw[pick,pick,h j (by simpa using hj 0 (by simp)),ih (j+1) λk hk=>by have:=hj (k+1) (by simpa using hk);omega]
 have p2:pick (path.set i x) 0 L'=pick (path.take i) 0 L++x::pick (path.drop (i+1)) (i+1) L:=by
  grind [MC,pick]
 rw[p2]at hf;rw[p1]at hne;rw[p1,p2];refine⟨?_,λo=>?_⟩
 case refine_2=>
  grind [qF,qC]
 refine aid hf hne λhxu y hy=>?_
 grind [mP]
theorem ajE{base:St}{D U:List Nat}{path:List dD}{L L':Nat->Bool}{i:Nat}{x:dD}(hi:i<path.length)(hL:L i=false)(hL':L' i=true)(h:∀j,j≠i->L' j=L j)
 (hf:Fits D U (pick (path.set i x) 0 L')) (hne:∀y∈pick path 0 L,y.d≠x.d) (hu:x.u≠[]->∀j y,i<j->L j=true->path[j]? =some y->y.u=[])
 (hv:x.v.kill (aO (nR (pick (path.set i x) 0 L')))=x.v)
 (hxo:∀o y,(look x.δ o=some y\/look x.u o=some y)->aO (nR (pick (path.set i x) 0 L')) o=false/\y.kill (aO (nR (pick (path.set i x) 0 L')))=y):
 (((qB x.k (after base path L)).adds x.u).adds x.δ).set x.d x.v=after base (path.set i x) L':=by
 obtain⟨e1,e2⟩:=ajD (base:=base) hi hL hL' h hf hne hu;have e3:qB x.k (after base path L)=(lg base (pick path 0 L)).kill (aO (nR (pick (path.set i x) 0 L'))):=by
  grind [after,mQ,St.oU]
 rw[e3];unfold after;rw[mQ,← e1];have f1:∀s:St,((s.adds x.u).adds x.δ)={s with ah:=((s.adds x.u).adds x.δ).ah}:=λs=>by grind [Vq]
 simp only[St.set,St.kill,St.mk.injEq,auZ]
 grind [qK]
theorem ajF{base:St}{path:List dD}{L:Nat->Bool}(hL:∀i,L i=false):after base path L=base:=by unfold after;rw[aeR path 0 L λi _=>hL i];rfl
theorem al5(h:Rel w0 M T γ st a w)(D:List Nat):Rel w0 M T γ (aP D st) a w:=h.kill _
theorem aeV{D:List Nat}{o:Nat}(h:aO D (o / 64)=true):(aP D st).ah o=none:=by simp[aP,St.kill,h]
theorem ajG{R:Reg}{path:List dD}{L:Nat->Bool}{i:Nat}(hf:Fits R.D R.U (pick path 0 L))(hsub:∀j,(R.ms.getD i 0).testBit j=true->L j=true)
 (hidx:∀k x,path[k]? =some x->idxOf R.D x.d 0=some k) (hi:L i=false) (hdown:∀k,L k=true->(R.ms.getD k 0).testBit i=false)
 (heff:ET R.ms R.E i=true->∀j x,path[j]? =some x->x.u≠[]->L j=true->(R.ms.getD i 0).testBit j=true):
 ((match ET R.ms R.E i with
   |true=>lg (aP R.D st) (pick path 0 (R.ms.getD i 0).testBit)
   |false=>(lg (aP R.D st) (pick path 0 (R.ms.getD i 0).testBit)).hide R.U).veil R i).more (lg (aP R.D st) (pick path 0 L)):=by
 have hmem:∀x∈pick path 0 (R.ms.getD i 0).testBit,x∈pick path 0 L:=λx hx=>by
  grind [mP]
 have ht:∀t,X8 R i t=false->vz (pick path 0 L) t ((aP R.D st).tmps t)=vz (pick path 0 (R.ms.getD i 0).testBit) t ((aP R.D st).tmps t):=by
  grind [Tq,aav,mP,X8,Nat.eq_of_beq_eq_true]
 have hO:∀o y,lookO (pick path 0 (R.ms.getD i 0).testBit) o ((aP R.D st).ah o)=some y->lookO (pick path 0 L) o ((aP R.D st).ah o)=some y:=by
  intro o y hy;by_cases he:∃x∈pick path 0 (R.ms.getD i 0).testBit,∃z,look x.δ o=some z
  .obtain⟨x,hx,z,hz⟩:=he;have asr:∀w∈pick path 0 L,∀z',look w.δ o=some z'->x=w:=λw hw z' hz'=>
    hf.one x (hmem x hx) w hw ((qE (hf.new x (hmem x hx)) hz).symm.trans (qE (hf.new w hw) hz'))
   grind [aeU]
  .have hno:∀x∈pick path 0 (R.ms.getD i 0).testBit,look x.δ o=none:=λx hx=>by
    cases hl:look x.δ o with
    |none=>rfl
    |some z=>grind
   rw[II _ hno]at hy;rw[II,hy];intro x hx;cases hl:look x.δ o with
   |none=>rfl
   |some z=>rw[aeV (by rw[qE (hf.new x hx) hl];exact hf.mem x hx)]at hy;cases hy
 have hsame:∀o y,oG (pick path 0 (R.ms.getD i 0).testBit) o=oG (pick path 0 L) o->(lg (aP R.D st) (pick path 0 (R.ms.getD i 0).testBit)).ah o=some y->(lg (aP R.D st) (pick path 0 L)).ah o=some y:=by
  grind [lg]
 have am8:∀s:St,(∀t,s.tmps t=vz (pick path 0 (R.ms.getD i 0).testBit) t ((aP R.D st).tmps t))->(∀o y,s.ah o=some y->(lg (aP R.D st) (pick path 0 L)).ah o=some y)->(s.veil R i).more (lg (aP R.D st) (pick path 0 L)):=by
  intro s h1 h2;refine⟨λt=>?_,h2⟩;show(match X8 R i t with|true=>AV.undef|false=>s.tmps t)=.undef\/_=(match X8 R i t with|true=>AV.undef|false=>s.tmps t);cases hh:X8 R i t with
  |true=>exact .inl rfl
  |false=>right;rw[h1 t];exact ht t hh
 split
 .next hc=>
  refine am8 _ (λt=>rfl) λo y hy=>hsame o y ?_ hy
  grind [Xg]
 .next hc=>
  refine am8 _ (λt=>rfl) λo y hy=>?_;unfold St.hide at hy;dsimp only at hy;split at hy
  .cases hy
  .next hU=>
   have nou:∀x∈pick path 0 L,look x.u o=none:=λx hx=>by
    cases hl:look x.u o with
    |none=>rfl
    |some z=>have:=(hf.upd x hx o z hl).1;grind
   grind [EW]
theorem ak3(st:St)(U:List Nat)(S:Nat->Bool):(st.kill S).hide U=(st.hide U).kill S:=by
 simp only[St.hide,St.kill,St.mk.injEq,auZ]
 grind
theorem ak4(st:St)(R:Reg)(i:Nat)(S:Nat->Bool):(st.kill S).veil R i=(st.veil R i).kill S:=by
 simp only[St.veil,St.kill,St.mk.injEq,auZ,and_true]
 funext t
 cases X8 R i t<;>rfl
theorem ag5{ms:List Nat}{i e q:Nat}(hei:e≠i)(h1:(ms.getD i 0).testBit e=false)(h2:(ms.getD e 0).testBit i=false):∀(A:List (Nat×Nat)),Gg A e q=true->aO (adf ms i A) q=true
 |[],h=>by cases h
 |(e',q')::r,h=>by
  rw[Gg]at h;rw[adf];cases hb:Nat.beq e' e&&Nat.beq q' q with
  |true=>
   rw[as1]at hb;rw[asX hb.1,asX hb.2,h1,h2,G6 hei];simp[aO,atX]
  |false=>
   rw[hb]at h;have ih:=ag5 hei h1 h2 r h;split
   .exact ih
   .rw[aO,ih];split<;>rfl
theorem aie{R:Reg}{path:List dD}{L:Nat->Bool}{i:Nat}(hf:Fits R.D R.U (pick path 0 L))(hsub:∀j,(R.ms.getD i 0).testBit j=true->L j=true)
 (hidx:∀k x,path[k]? =some x->idxOf R.D x.d 0=some k) (hi:L i=false) (hdown:∀k,L k=true->(R.ms.getD k 0).testBit i=false)
 (heff:ET R.ms R.E i=true->∀j x,path[j]? =some x->x.u≠[]->L j=true->(R.ms.getD i 0).testBit j=true)
 (hk:∀e x,path[e]? =some x->L e=true->∀q∈x.k,Gg R.A e q=true):
 (viewAt R (aP R.D st) path i).more (after (aP R.D st) path L):=by
 have h0:=ajG (st:=st) hf hsub hidx hi hdown heff;have e:viewAt R (aP R.D st) path i=(qB (nR (pick path 0 (R.ms.getD i 0).testBit)) ((match ET R.ms R.E i with
  |true=>lg (aP R.D st) (pick path 0 (R.ms.getD i 0).testBit)
  |false=>(lg (aP R.D st) (pick path 0 (R.ms.getD i 0).testBit)).hide R.U).veil R i)).aat (adf R.ms i R.A):=by
  grind [viewAt,after,mQ,ak3,ak4]
 rw[e];refine ajC h0 (λo ho=>?_) λo ho=>?_
 · grind [qF,mP]
 grind [qF,mP,ag5]
theorem aeW:∀(l:List Nat)(j i d:Nat),nodup l=true->l[i]? =some d->idxOf l d j=some (j+i)
 |[],_,_,_,_,h=>by simp at h
 |x::r,j,0,d,_,h=>by
  grind [idxOf,Nat.beq_refl]
 |x::r,j,i+1,d,hn,h=>by
  rw[nodup,as1]at hn;have hne:Nat.beq d x=false:=by
   grind [Nat.eq_of_beq_eq_true,qC]
  rw[idxOf,hne,show j+(i+1)=j+1+i by omega];exact aeW r (j+1) i d hn.2 (by simpa using h)
end Go.Fw
namespace Go.Fw
open Go
variable {P:Program} {w0:World} {M:Nat->Prop} {T:Ext} {γ γ':Nat->Value} {st s:St} {a:Act} {w w':World} {Θ:gY} {Γ:je}
theorem Cell.wB{S:Nat->Bool}(h:∀o,S o=false):∀(c:Cell),c.kill S=c
 |.ref o=>by grind [Cell.kill]
 |.int _ _|.bool _|.str _|.nil|.sl _ _ _ _|.junk=>rfl
theorem DI{S:Nat->Bool}(h:∀o,S o=false)(cs:List Cell):cs.map (Cell.kill S)=cs:=by rw[show Cell.kill S=id from funext (Cell.wB h),auL]
theorem SV.wB{S:Nat->Bool}(h:∀o,S o=false):∀(c:SV),c.kill S=c
 |.one c=>by grind [SV.kill,Cell.wB]
 |.agg cs=>by grind [SV.kill,DI]
theorem AV.wB{S:Nat->Bool}(h:∀o,S o=false):∀(c:AV),c.kill S=c
 |.undef=>rfl
 |.sv v=>by grind [AV.kill,SV.wB]
 |.kZ vs=>by simp only[AV.kill];rw[show SV.kill S=id from funext (SV.wB h),auL]
 |.eG o off=>by grind [AV.kill]
 |.lI o i off=>by grind [AV.kill]
 |.win o i off=>by grind [AV.kill]
 |.nH _ _ _ _=>rfl
 |.dA cs off=>by grind [AV.kill,DI]
 |.fn f caps=>by simp only[AV.kill];rw[show List.map (Cell.kill S)=id from funext (DI h),auL]
theorem aB.wB{S:Nat->Bool}(h:∀o,S o=false):∀(c:aB),c.kill S=c
 |.var cs=>by grind [aB.kill,DI]
 |.arr _ _ _ _=>rfl
theorem St.wB{S:Nat->Bool}(h:∀o,S o=false)(st:St):st.kill S=st:=by
 unfold St.kill;rw[show(λt=>(st.tmps t).kill S)=st.tmps from funext λt=>AV.wB h _];have:(λo=>match S o with|true=>none|false=>(st.ah o).map (aB.kill S))=st.ah:=by
  funext o
  rw[h o,show aB.kill S=id from funext (aB.wB h)];cases st.ah o<;>rfl
 simp_all
theorem ajH:∀(c:Cell),c.refs=[]->c.view s=c.view st
 |.int _ _,_|.bool _,_|.str _,_|.nil,_|.sl _ _ _ _,_|.junk,_=>rfl
theorem Xj:∀(cs:List Cell),cs.flatMap Cell.refs=[]->cs.map (Cell.view s)=cs.map (Cell.view st)
 |[],_=>rfl
 |c::cs,h=>by rw[atG,aty]at h;rw[att,att,ajH c h.1,Xj cs h.2]
theorem Tv(h:st.more s){m:Mode}{x:AV}{r:Arg×Option Nat}(hr:pJ st m x=some r):pJ s m x=some r:=by
 unfold pJ at hr ⊢;cases m with
 |val=>
  grind [yF]
 |own=>
  dsimp only at hr ⊢;split at hr
  .split at hr
   .next ho=>rw[h.ah _ _ ho];exact hr
   .cases hr
  .cases hr
 |ptr=>
  dsimp only at hr ⊢;split at hr
  .split at hr
   .next hb ho=>
    split at hr
    .next hn=>rw[hb,h.ah _ _ ho];grind [Xj]
    .cases hr
   .cases hr
  .cases hr
theorem Qu{m:Mode}{x:AV}{r:Arg×Option Nat}(hr:pJ st m x=some r):x≠ .undef:=by rintro rfl;cases m<;>simp[pJ,mG]at hr
theorem EX(h:st.more s):∀(os:List (Option Nat))(aJ:List Eff)(δ:List (Nat×aB)),lX st os aJ=some δ->lX s os aJ=some δ
 |[],_,_,hb=>by grind [lX]
 |none::os,aJ,δ,hb=>by exact EX h os _ δ hb
 |some o::os,aJ,δ,hb=>by
  unfold lX at hb ⊢;split at hb
  .next h1 h2=>rw[h1,EX h _ _ _ h2];exact hb
  .next h1 h2 h3=>rw[h1,h.ah _ _ h2,EX h _ _ _ h3];omega
  .next h1 h2 h3=>rw[h1,h.ah _ _ h2,EX h _ _ _ h3];omega
  .cases hb
theorem MF:∀(os:List (Option Nat))(aJ:List Eff),Tn os aJ=true->∀p,ig os aJ p=false
 |[],_,_,_=>rfl
 |none::os,aJ,h,p=>by exact MF os _ h p
 |some o::os,aJ,h,p=>by
  unfold Tn at h;unfold ig;split at h
  .next cs he=>rw[he];exact MF os _ h p
  .cases h
theorem aft(h:st.more s){m:Mode}{x:AV}{r:Arg×Option Nat}(hr:ru st m x=some r):ru s m x=some r:=by
 cases m with
 |val=>
  grind [ru,yF]
 |own=>exact Tv h (m:=.own) hr
 |ptr=>exact Tv h (m:=.ptr) hr
theorem adg{m:Mode}{x:AV}{r:Arg×Option Nat}(hr:ru st m x=some r):x≠ .undef:=by
 cases m with
 |val=>rintro rfl;simp[ru,mG]at hr
 |own=>exact Qu (m:=.own) hr
 |ptr=>exact Qu (m:=.ptr) hr
theorem Xk(h:st.more s):∀(ms:List Mode)(xs:List AV)(r:List Arg×List (Option Nat)),wo st ms xs=some r->wo s ms xs=some r
 |_,[],r,hr=>by grind [wo]
 |ms,x::xs,r,hr=>by
  unfold wo at hr ⊢;split at hr
  .next h1 h2=>rw[aft h h1,Xk h _ _ _ h2];exact hr
  .cases hr
theorem Tz:∀(ms:List Mode)(xs:List AV)(r:List Arg×List (Option Nat)),wo st ms xs=some r->∀x∈xs,x≠ .undef
 |_,[],_,_,x,hx=>by cases hx
 |ms,x::xs,r,hr,y,hy=>by
  unfold wo at hr;split at hr
  .next h1 h2=>
   rcases atw.1 hy with rfl|hy
   .exact adg h1
   .exact Tz _ _ _ h2 y hy
  .cases hr
theorem ajI{xs:List AV}(h:EH xs=true):rY xs=[]:=by
 grind [EH]
theorem yj:∀(ms:List Mode)(xs:List AV)(r:List Arg×List (Option Nat)),rY (CJ ms xs)=[]->wo st ms xs=some r->hands st ms xs=some r
 |_,[],r,_,hr=>by grind [wo,hands]
 |ms,x::xs,r,hn,hr=>by
  unfold wo at hr;split at hr
  .next a o as os h1 h2=>
   have key:hands st ms.tail xs=some (as,os)/\pJ st (ms.headD .val) x=some (a,o):=by
    cases ms with
    |nil=>
     have hn':x.refs++rY xs=[]:=hn;rw[aty]at hn';refine⟨yj [] xs _ (by cases xs<;>exact hn'.2) h2,?_⟩
     grind [ru,pJ]
    |cons m ms=>
     cases m with
     |val=>
      have hn':x.refs++rY (CJ ms xs)=[]:=hn;rw[aty]at hn';refine⟨yj ms xs _ hn'.2 h2,?_⟩;have h1:ru st .val x=some (a,o):=h1;simp only[ru]at h1;simp only[pJ,hn'.1];split at h1
      .next b hb=>rw[hb];exact h1
      .cases h1
     |own=>exact⟨yj ms xs _ hn h2,h1⟩
     |ptr=>exact⟨yj ms xs _ hn h2,h1⟩
   grind [hands]
  .cases hr
theorem afu{m:Mode}{x:AV}{a:Arg}{o:Option Nat}(h:ru st m x=some (a,o)):Ee false st x a o:=by
 have weak:Ee true st x a o->Ee false st x a o:=λh=>h.imp (λ⟨h1,_,h3⟩=>⟨h1,(λe=>by cases e),h3⟩) id;cases m with
 |val=>
  simp only[ru]at h;split at h
  .next b hb=>cases h;exact .inl ⟨rfl,(λe=>by cases e),hb⟩
  .cases h
 |own=>exact weak (Jp (m:=.own) h)
 |ptr=>exact weak (Jp (m:=.ptr) h)
theorem Xl:∀(ms:List Mode)(xs:List AV)(as:List Arg)(os:List (Option Nat)),wo st ms xs=some (as,os)->oP false st xs as os
 |_,[],as,os,h=>by cases h;trivial
 |ms,x::xs,as,os,h=>by
  unfold wo at h;split at h
  .next a o as' os' h1 h2=>cases h;exact⟨afu h1,Xl ms.tail xs as' os' h2⟩
  .cases h
theorem ag6{G:iV}(hE:pK P G Θ Γ w0 M)(h:Rel w0 M T γ s a w)(hm:st.more s)(o:Oper){D U:List Nat}{d:Nat}{p:Prop}{ρ:L8}{os:List (Option Nat)×Bool}
 (hc:NG Γ st o.op=some (p,ρ,os)) (hp:p) (hd:∀q,q / 64=d->s.ah q=none) (hch:∀t,ρ.R t->∃r,EU D U d st os (ρ.out t) (ρ.aJ t)=some r) {next:Act->World->Prop} {Q:Exit->Act->World->Prop}
 (hn:∀t v υ δ u γ' w',ρ.R t->EU D U d st os (ρ.out t) (ρ.aJ t)=some (v,υ,δ)->Rel w0 M T γ' ((s.adds υ).adds δ) a w'->aQ (aj w0 T γ' ((s.adds υ).adds δ) w') v u->next (a.put o.dst u) w'):o.wp P a w next Q:=by
 unfold NG at hc;split at hc
 case h_2=>cases hc
 next f args ny hop=>
 split at hc
 case h_2=>cases hc
 next ms con hcon=>
 split at hc
 case h_2=>cases hc
 next vs os' SN=>
 split at hc
 case h_2=>cases hc
 next hno=>
 split at hc
 case h_2=>cases hc
 next q ρ' hq=>
 cases hc;have hand:handed s args.toList []=handed st args.toList []:=Me hm [] _ (Tz _ _ _ SN);have adh:=Xk hm _ _ _ SN;rw[← hand]at adh hno hch hn;obtain⟨hok,hcall⟩:=hE.afW f ms con hcon;have hv:aQ (aj w0 T γ s w) (.fn f []) (a.eval (.func f)):=gU h (.func f);obtain⟨us,ZV,hkx⟩:=hv;unfold Oper.wp;rw[KG hop ZV hcall,auV];have hxs:lT (aj w0 T γ s w) (handed s args.toList []) (args.map a.eval++us).toList:=by
  grind [Array.toList_map,EN]
 have hk:(d*64+1)%64=1:=by omega
 have hspec:∀t,ρ.R t->∃υ,vU os'=true/\G5 (ρ.aJ t) ((ρ.out t).take (d*64+1)).2=true/\lX s os' (ρ.aJ t)=some υ/\s.kill (ig os' (ρ.aJ t))=s/\iP s ((ρ.out t).take (d*64+1)).2=true/\
  (!(!(EH (CJ ms (handed s args.toList []))))||((ρ.out t).made&&Jq (ρ.aJ t)))=true/\
  EU D U d st (os',!(EH (CJ ms (handed s args.toList [])))) (ρ.out t) (ρ.aJ t)=some (((ρ.out t).take (d*64+1)).1,υ,((ρ.out t).take (d*64+1)).2):=by
  intro t ht;obtain⟨r,hr⟩:=hch t ht;have hr0:=hr;unfold EU at hr;split at hr
  .next υ hnd hb=>
   rw[as1,as1,as1,as1]at hnd;split at hr
   .cases hr;refine⟨υ,hnd.1,hnd.2.1,EX hm _ _ _ hb,St.wB (MF _ _ hnd.2.2.1) s,?_,hnd.2.2.2.2,hr0⟩;refine atq.2 λz hz=>?_;rw[hd z.1 (asX (atq.1 hnd.2.2.2.1 z hz))];rfl
   .cases hr
  .cases hr
 have hpre:∀t,ρ.R t->∃δ,lX s os' (ρ.aJ t)=some δ/\iP (s.kill (ig os' (ρ.aJ t))) ((ρ.out t).take (d*64+1)).2=true/\G5 (ρ.aJ t) ((ρ.out t).take (d*64+1)).2=true:=λt ht=>by
  grind
 obtain⟨t0,ht0⟩:=(hok vs _ ρ hq hp).1;obtain⟨_,hnd,_⟩:=hspec t0 ht0;have aom:Calls P f (args.map a.eval++us) w λe w'=>∃t δ,ρ.R t/\lX s os' (ρ.aJ t)=some δ/\∃v γ',e=.returned v/\
  Rel w0 M T γ' (((s.kill (ig os' (ρ.aJ t))).adds δ).adds ((ρ.out t).take (d*64+1)).2) a w'/\aQ (aj w0 T γ' (((s.kill (ig os' (ρ.aJ t))).adds δ).adds ((ρ.out t).take (d*64+1)).2) w') ((ρ.out t).take (d*64+1)).1 v:=by
  cases hnr:EH (CJ ms (handed s args.toList []))with
  |true=>exact h.aiC hE hxs (OJ ms _ vs os' (yj ms _ _ (ajI hnr) adh)) hnd hk hok hq hp hpre
  |false=>
   rw[hnr]at hno;refine h.agE hE hxs (Xl ms _ vs os' adh) hnd hk hok hq hp (λq e r l he=>?_) (λt ht=>?_) hpre
   .unfold eX at he;split at he
    .next e' r' l' hb=>have:=atq.1 hno _ (atB hb);cases this
    .split at he<;>cases he
    .cases he
   grind
 refine aom.mono ?_
 grind
theorem Ae{ops:Array Oper}{listed:Array Bool}{i:Nat}:i∈Region.ready .any ops listed↔
 ∃o,ops[i]? =some o/\listed.getD i true=false/\∀e∈o.after,Region.binds .any e=true->listed.getD e.on false=true:=by
 grind [mem_ready]
theorem KU{listed:Array Bool}{i:Nat}(hi:i<listed.size):listed.getD i true=listed.getD i false:=by
 grind
theorem anK(d:Nat):(d*64+1) / 64=d:=by omega
theorem aeX{o:Op}(h:vZ o=true):xJ Γ o=true:=by
 unfold vZ at h;split at h
 .rfl
 .cases h
theorem Rel.aon(h:Rel w0 M T γ st a w)(d:Nat)(hd:st.n<=d)(v:AV)(hv:v=.kZ []):Rel w0 M T γ (st.set d v) (a.put none undef) w:=by
 refine⟨h.mT,h.defers,h.size,h.os,h.tape,h.output,h.grow,h.kept,λt=>?_,h.ah,h.lt,h.sep,h.pin⟩;show aQ _ (match Nat.beq t d with|true=>v|false=>st.tmps t) (a.tmps.getD t undef);cases hb:Nat.beq t d with
 |false=>exact h.tmps t
 |true=>
  have e:=asX hb;have hs:=h.size;have:a.tmps.getD t undef=undef:=by grind
  rw[this,hv];exact⟨#[],rfl,trivial⟩
theorem adi{G:iV}(hE:pK P G Θ Γ w0 M){s:St}(h:Rel w0 M T γ s a w)(hm:st.more s)(o:Oper){υ:List (Nat×aB)}(hc:Jy Θ st o.op=some υ){next:Act->World->Prop}{Q:Exit->Act->World->Prop}
 (hn:∀γ' w',Rel w0 M T γ' ((s.adds υ).adds []) a w'->next (a.put o.dst undef) w'):o.wp P a w next Q:=by
 unfold Jy at hc;split at hc
 case h_2=>cases hc
 next t p x hop=>
 split at hc
 case h_2=>cases hc
 next v ti q off hv ht hp=>
 split at hc
 case h_2=>cases hc
 next cs hlen ho=>
 split at hc
 case h_2=>cases hc
 next OI=>
 cases hc;have hs:store s (.eG q off) v=some (True,s.add q (.var (splice cs off v.cells))):=by unfold store;simp only[hm.ah q _ ho,OI]
 have hpv:=gU h p;rw[bG hm hp (by simp)]at hpv;have hxv:=gU h x;rw[bG hm hv (by simp)]at hxv;obtain⟨w',h1,h2⟩:=aeD hE.types h ht hs trivial hpv hxv (asX hlen);exact Oper.wp_skip (w':=w') (by simp_all [execOp]) (hn γ w' h2)
theorem Cell.jZ{S:Nat->Bool}(st:St):∀(c:Cell),c.kill S=c->c.freeze st S=c
 |.ref o,h=>by
  grind [Cell.kill,Cell.freeze]
 |.int _ _,_|.bool _,_|.str _,_|.nil,_|.sl _ _ _ _,_|.junk,_=>rfl
theorem mV{S:Nat->Bool}(st:St):∀(cs:List Cell),cs.map (Cell.kill S)=cs->cs.map (Cell.freeze st S)=cs
 |[],_=>rfl
 |c::cs,h=>by rw[att,List.cons.injEq]at h;rw[att,Cell.jZ st c h.1,mV st cs h.2]
theorem SV.jZ{S:Nat->Bool}(st:St):∀(c:SV),c.kill S=c->c.freeze st S=c
 |.one c,h=>by
  grind [SV.kill,SV.freeze,Cell.jZ]
 |.agg cs,h=>by
  grind [SV.kill,SV.freeze,mV]
theorem Hl{S:Nat->Bool}(st:St):∀(cs:List SV),cs.map (SV.kill S)=cs->cs.map (SV.freeze st S)=cs
 |[],_=>rfl
 |c::cs,h=>by rw[att,List.cons.injEq]at h;rw[att,SV.jZ st c h.1,Hl st cs h.2]
theorem FU{S:Nat->Bool}(st:St):∀(l:List (List Cell)),l.map (List.map (Cell.kill S))=l->l.map (List.map (Cell.freeze st S))=l
 |[],_=>rfl
 |c::cs,h=>by rw[att,List.cons.injEq]at h;rw[att,mV st c h.1,FU st cs h.2]
theorem AV.jZ{S:Nat->Bool}(st:St):∀(c:AV),c.kill S=c->c.freeze st S=c
 |.undef,_=>rfl
 |.sv v,h=>by
  grind [AV.kill,AV.freeze,SV.jZ]
 |.kZ vs,h=>by
  grind [AV.kill,AV.freeze,Hl]
 |.eG o off,h=>by
  grind [AV.kill,AV.freeze]
 |.lI o i off,h=>by
  grind [AV.kill,AV.freeze]
 |.win o i off,h=>by
  grind [AV.kill,AV.freeze]
 |.nH _ _ _ _,_=>rfl
 |.dA cs off,h=>by
  grind [AV.kill,AV.freeze,mV]
 |.fn f caps,h=>by
  grind [AV.kill,AV.freeze,FU]
theorem aB.jZ{S:Nat->Bool}(st:St):∀(c:aB),c.kill S=c->c.freeze st S=c
 |.var cs,h=>by
  grind [aB.kill,aB.freeze,mV]
 |.arr _ _ _ _,_=>rfl
theorem al6{s:St}{γ0:Nat->Value}{w1:World}{a1:Act}(h0:Rel w0 M T γ0 s a1 w1){q:Nat}(hq:s.ah q=none){e:TypeId}{r:ak}{l:List r.den}{fr:Bool}{u:Value}
 (h:Rel w0 M T γ (s.adds [(q,.arr e r l fr)]) a w) (hv:aQ (aj w0 T γ (s.adds [(q,.arr e r l fr)]) w) (.sv (.one (.ref q))) u):
 Rel w0 M T γ s a w/\aQ (aj w0 T γ s w) (.sv (.one (.sl e r l fr))) u:=by
 have hS:∀o,Nat.beq q o=true->s.ah o=none:=λo ho=>by simp_all
 have xG:(s.adds [(q,.arr e r l fr)]).ah q=some (.arr e r l fr):=by
  show(match Nat.beq q q with|true=>some _|false=>_)=_
  simp_all
 have hne:∀o,Nat.beq q o=false->(s.adds [(q,.arr e r l fr)]).ah o=s.ah o:=λo ho=>by
  show(match Nat.beq o q with|true=>some _|false=>_)=_
  grind [Nat.eq_of_beq_eq_true]
 have hs:(s.adds [(q,.arr e r l fr)]).freeze (Nat.beq q)=s:=by
  have ht:((s.adds [(q,.arr e r l fr)]).freeze (Nat.beq q)).tmps=s.tmps:=by
   funext t
   exact AV.jZ _ _ (AV.rC hS _ _ (h0.tmps t))
  have ho:((s.adds [(q,.arr e r l fr)]).freeze (Nat.beq q)).ah=s.ah:=by
   funext o
   simp only[St.freeze];cases hb:Nat.beq q o with
   |true=>grind
   |false=>
    simp only[hne o hb];cases hx:s.ah o with
    |none=>rfl
    |some x=>simp only[avg,aB.jZ _ x (aB.rC hS x (h0.ah o x hx))]
  show(⟨s.n,((s.adds [(q,.arr e r l fr)]).freeze (Nat.beq q)).tmps,((s.adds [(q,.arr e r l fr)]).freeze (Nat.beq q)).ah⟩:St)=⟨s.n,s.tmps,s.ah⟩;rw[ht,ho]
 have h1:=h.freeze (S:=Nat.beq q);have h2:=aQ.freeze (S:=Nat.beq q) h _ _ hv
 grind [AV.freeze,SV.freeze,Cell.freeze]
structure Way(R:Reg)(ops:Array Oper)(t0:Nat)(path:List dD):Prop where
 len:path.length=t0
 dst:∀(i:Nat)(o:Oper)(x:dD),ops[i]? =some o->path[i]? =some x->rq R.n i o=some x.d
 al7:∀x∈path,aO R.D x.d=true
 apart:∀(i j:Nat)(x y:dD),path[i]? =some x->path[j]? =some y->x.d=y.d->i=j
 idx:∀(i:Nat)(x:dD),path[i]? =some x->idxOf R.D x.d 0=some i
theorem pO.fit{R:Reg}{base:St}{path:List dD}{i:Nat}{o:Oper}{x:dD}(h:pO Θ Γ R base path i o x):
 BB x.d x.δ=true/\(∀q y,look x.u q=some y->aO R.U q=true/\aO R.D (q / 64)=false)/\(x.u≠[]->xJ Γ o.op=true)/\∀q∈x.k,Gg R.A i q=true/\aO R.D (q / 64)=true:=by
 obtain⟨_,_,h3⟩:=h;rcases h3 with⟨_,⟨_,_,p,v,δ,_,_,hn,hx⟩|⟨_,_,p,q,y,_,_,⟨h1,h2,h3⟩,hx⟩|⟨he,_,υ,_,hin,hx⟩|⟨⟨he,_⟩,hk,p,ρ,os,t,_,_,_,_,hres⟩⟩|⟨_,hx⟩
 .obtain⟨l1,l2,l3,l4⟩:=nC R.F ⟨x.d,v,[],δ,[]⟩;rw[← hx]at l2 l3 l4;exact⟨atq.2 λy hy=>atq.1 hn y (l4 y hy),(λq y hy=>by rw[l2]at hy;cases hy),(λhne=>(hne l2).elim),λq hq=>by grind⟩
 .obtain⟨l1,l2,l3,l4⟩:=nC R.F ⟨x.d,.sv (.one (.ref (x.d*64+1))),[],[(x.d*64+1,y)],[q]⟩;rw[← hx]at l2 l3 l4;refine⟨atq.2 λz hz=>?_,(λq y hy=>by rw[l2]at hy;cases hy),(λhne=>(hne l2).elim),λr hr=>?_⟩
  .have:z=(x.d*64+1,y):=by grind
   rw[this];rw[show(x.d*64+1) / 64=x.d by omega,atX]
  grind
 .rw[hx];refine⟨rfl,λq y hy=>?_,(λ_=>he),λq hq=>by cases hq⟩;have:=atq.1 hin _ (uG _ _ _ hy)
  grind
 .unfold EU at hres;split at hres
  .next υ hnd hb=>
   split at hres
   .next hall=>
    simp only[Option.some.injEq,Prod.mk.injEq]at hres;obtain⟨_,e2,e3⟩:=hres;refine⟨by grind,λq y hy=>?_,(λ_=>he),λq hq=>by grind⟩;rw[← e2]at hy;have:=atq.1 hall _ (uG _ _ _ hy)
    grind
   .cases hres
  .cases hres
 .rw[hx];exact⟨rfl,(λq y hy=>by cases hy),(λhne=>(hne rfl).elim),λq hq=>by cases hq⟩
theorem aax:∀(l:List Oper)(i j:Nat)(o:Oper),l[j]? =some o->xJ Γ o.op=true->i+j∈ND Γ i l
 |[],_,_,_,h,_=>by simp at h
 |x::r,i,0,o,h,he=>by
  grind [ND]
 |x::r,i,j+1,o,h,he=>by
  have:=aax r (i+1) j o (by simpa using h) he
  grind [ND]
theorem Way.fits{R:Reg}{ops:Array Oper}{t0:Nat}{path:List dD}{L:Nat->Bool}{base:St}(W:Way R ops t0 path)(hle:t0<=ops.size)
 (hok:∀j o x,ops[j]? =some o->path[j]? =some x->L j=true->pO Θ Γ R base path j o x):Fits R.D R.U (pick path 0 L):=by
 have get:∀x∈pick path 0 L,∃j o,L j=true/\path[j]? =some x/\ops[j]? =some o:=λx hx=>by obtain⟨j,h1,h2⟩:=(mP _ _).1 hx;rw[atS]at h1;obtain⟨hj,_⟩:=ath.1 h2;have hlen:=W.len;exact⟨j,ops[j]'(by omega),h1,h2,by simp⟩
 refine⟨λx hx y hy e=>?_,λx hx=>?_,λx hx=>?_,λx hx q z hz=>?_⟩
 .obtain⟨j,_,_,h2,_⟩:=get x hx;obtain⟨k,_,_,h3,_⟩:=get y hy;have:=W.apart j k x y h2 h3 e
  grind
 .obtain⟨j,_,_,h2,_⟩:=get x hx;exact W.al7 x (atB h2)
 .obtain⟨j,o,h1,h2,h3⟩:=get x hx;exact(hok j o x h3 h2 h1).fit.1
 .obtain⟨j,o,h1,h2,h3⟩:=get x hx;exact(hok j o x h3 h2 h1).fit.2.1 q z hz
theorem Way.set{R:Reg}{ops:Array Oper}{t0:Nat}{path:List dD}{i:Nat}{x y:dD}(W:Way R ops t0 path)(hy:path[i]? =some y)(hd:x.d=y.d):Way R ops t0 (path.set i x):=by
 have get:∀(j:Nat)(z:dD),(path.set i x)[j]? =some z->∃z',path[j]? =some z'/\z.d=z'.d:=λj z hz=>by
  grind
 refine⟨by simpa using W.len,λj o z ho hz=>?_,λz hz=>?_,λj k u v hu hv e=>?_,λj z hz=>?_⟩
 .obtain⟨z',h1,h2⟩:=get j z hz;rw[W.dst j o z' ho h1,h2]
 .obtain⟨j,hj⟩:=auu hz;obtain⟨z',h1,h2⟩:=get j z hj;rw[h2];exact W.al7 z' (atB h1)
 .obtain⟨u',h1,h2⟩:=get j u hu;obtain⟨v',h3,h4⟩:=get k v hv;exact W.apart j k u' v' h1 h3 (by omega)
 .obtain⟨z',h1,h2⟩:=get j z hz;rw[h2];exact W.idx j z' h1
theorem al8{G:iV}(hE:pK P G Θ Γ w0 M){ops:Array Oper}{Q:Exit->Act->World->Prop}{R:Reg}{t0:Nat}{path:List dD}{L L':Nat->Bool}{i:Nat}{o:Oper}
 (W:Way R ops t0 path) (hle:t0<=ops.size) (hit:i<t0)
 (hRn:R.n=st.n) (hDn:∀i o d,ops[i]? =some o->i<t0->o.dst=some d->d<st.n) (hgd:∀i o g b,ops[i]? =some o->i<t0->o.guard=some (g,b)->∃og d,ops[g]? =some og/\og.dst=some d) (hcmp:∀e∈R.E,ET R.ms R.E e=true) (hEi:∀j o',ops[j]? =some o'->j<t0->xJ Γ o'.op=true->j∈R.E)
 (hA:∀e q,Gg R.A e q=true->∃j,idxOf R.D (q / 64) 0=some j/\(R.ms.getD e 0).testBit j=true)
 (ho:ops[i]? =some o) (hen:Enabled Θ Γ R (aP R.D st) path i o)
 (hok:∀j o x,ops[j]? =some o->path[j]? =some x->L j=true->pO Θ Γ R (aP R.D st) path j o x)
 (hcl:∀j k,L j=true->(R.ms.getD j 0).testBit k=true->L k=true)
 (hsub:∀j,(R.ms.getD i 0).testBit j=true->L j=true) (hi:L i=false) (hi':L' i=true) (h:∀j,j≠i->L' j=L j)
 (hR:Rel w0 M T γ (after (aP R.D st) path L) a w) {K:Act->World->Prop}
 (hK:∀x γ' a' w',(∃y,path[i]? =some y/\x.d=y.d)->pO Θ Γ R (aP R.D st) (path.set i x) i o x->Rel w0 M T γ' (after (aP R.D st) (path.set i x) L') a' w'->K a' w'):
 wpOp P ops Q i K a w:=by
 obtain⟨d,hd,hm,hcase⟩:=hen;have hlen:=W.len;have hil:i<path.length:=by omega
 have hy:path[i]? =some path[i]:=by simp[hil]
 have hyd:path[i].d=d:=by
  have:=W.dst i o _ ho hy
  grind
 have hdD:aO R.D d=true:=by rw[← hyd];exact W.al7 _ (atB hy)
 have af2:o.dst=some d\/(o.dst=none/\vZ o.op=true/\st.n<=d):=by
  grind [rq]
 have hfit:=W.fits hle hok;have hne:∀y∈pick path 0 L,y.d≠d:=λy hy' e=>by
  obtain⟨j,h1,h2⟩:=(mP _ _).1 hy';rw[atS]at h1;have:=W.apart j i y _ h2 hy (by omega)
  grind
 have heff:∀j x,path[j]? =some x->x.u≠[]->L j=true->j∈R.E:=λj x hx hu hL=>by
  obtain⟨hj,_⟩:=ath.1 hx;have hoj:ops[j]? =some (ops[j]'(by omega)):=by simp
  exact hEi j _ hoj (by omega) ((hok j _ x hoj hx hL).fit.2.2.1 hu)
 have anL:ET R.ms R.E i=true->∀j,j∈R.E->L j=true->(R.ms.getD i 0).testBit j=true:=λhc j hjE hL=>by
  have:=atq.1 hc j hjE;rw[auD,auD]at this;rcases this with g|g|g
  · simp_all
  .exact g
  grind
 have hmore:(viewAt R (aP R.D st) path i).more (after (aP R.D st) path L):=
  aie hfit hsub W.idx hi (λk hk=>by
   grind) (λhc j x hx hu hL=>anL hc j (heff j x hx hu hL) hL) λe x hx hL q hq=>by
    obtain⟨hj,_⟩:=ath.1 hx;have hoj:ops[e]? =some (ops[e]'(by omega)):=by simp
    exact((hok e _ x hoj hx hL).fit.2.2.2 q hq).1
 have ast:∀q,aO (nR (pick path 0 L)) q=true->aO R.D (q / 64)=true/\q / 64≠d:=λq hq=>by
  obtain⟨x,hx,hxq⟩:=(qF _).1 hq;obtain⟨e,h1,h2⟩:=(mP _ _).1 hx;rw[atS]at h1;obtain⟨hj,_⟩:=ath.1 h2;have hoj:ops[e]? =some (ops[e]'(by omega)):=by simp
  have hf:=(hok e _ x hoj h2 h1).fit.2.2.2 q hxq;refine⟨hf.2,λe2=>?_⟩;obtain⟨j,g1,g2⟩:=hA e q hf.1;have:=W.idx i _ hy
  grind
 have hnone:∀q,q / 64=d->(after (aP R.D st) path L).ah q=none:=λq hq=>by
  have hqD:aO R.D (q / 64)=true:=by grind
  have hP:(lg (aP R.D st) (pick path 0 L)).ah q=none:=by
   unfold lg;dsimp only;rw[EW _ λy hy'=>by
    cases hl:look y.u q with
    |none=>rfl
    |some z=>have:=(hfit.upd y hy' q z hl).2;grind]
   dsimp only;rw[II _ λy hy'=>by
    cases hl:look y.δ q with
    |none=>rfl
    |some z=>exact(hne y hy' ((qE (hfit.new y hy') hl).symm.trans hq)).elim]
   exact aeV hqD
  grind [after,mQ,St.kill]
 have hself:∀x:dD,∀j,(R.ms.getD i 0).testBit j=true->path[j]? =(path.set i x)[j]? :=λx j hj=>by
  grind
 have fin:∀(x:dD)(γ':Nat->Value)(w':World)(u:Value),x.d=d->(o.dst=none->x.v=.kZ [])->(∀q y,look x.u q=some y->aO R.U q=true/\aO R.D (q / 64)=false)->BB x.d x.δ=true->(x.u≠[]->i∈R.E)->(∀q∈x.k,aO R.D (q / 64)=true/\q / 64≠d)->
  pO Θ Γ R (aP R.D st) path i o x->Rel w0 M T γ' (((qB x.k (after (aP R.D st) path L)).adds x.u).adds x.δ) a w'->aQ (aj w0 T γ' (((qB x.k (after (aP R.D st) path L)).adds x.u).adds x.δ) w') x.v u->K (a.put o.dst u) w':=by
  intro x γ' w' u hxd hxv hxu hxn hxE hxk EY hR' hv;have hn2:(((qB x.k (after (aP R.D st) path L)).adds x.u).adds x.δ).n=st.n:=by rw[(Ed _ _).2,(Ed _ _).2,mQ];unfold after;rw[mQ];rfl
  have aop:∀q,aO (nR (pick (path.set i x) 0 L')) q=true->aO R.D (q / 64)=true/\q / 64≠d:=λq hq=>by
   obtain⟨y,hy1,hyq⟩:=(qF _).1 hq;obtain⟨e,h1,h2⟩:=(mP _ _).1 hy1;rw[atS]at h1;by_cases hei:e=i
   · grind
   grind [qF,mP]
  have am9:∀q,aO (nR (pick (path.set i x) 0 L')) q=true->(((qB x.k (after (aP R.D st) path L)).adds x.u).adds x.δ).ah q=none:=λq hq=>by
   obtain⟨g1,g2⟩:=aop q hq;rw[qK,qK];have hδq:look x.δ q=none:=by
    cases hl:look x.δ q with
    |none=>rfl
    |some z=>grind [qE]
   have huq:look x.u q=none:=by
    cases hl:look x.u q with
    |none=>rfl
    |some z=>grind
   rw[hδq,huq];dsimp only;rw[mQ];unfold after;rw[mQ];obtain⟨y,hy1,hyq⟩:=(qF _).1 hq;obtain⟨e,h1,h2⟩:=(mP _ _).1 hy1;rw[atS]at h1;by_cases hei:e=i
   · grind [St.kill,qC]
   .rw[aui (au0 hei)]at h2;rw[h e hei]at h1;have:=(qF (o:=q) (pick path 0 L)).2 ⟨y,(mP _ _).2 ⟨e,by grind,h2⟩,hyq⟩;simp only[St.kill,this,aul];cases aO x.k q<;>rfl
  have hset:Rel w0 M T γ' (St.set (((qB x.k (after (aP R.D st) path L)).adds x.u).adds x.δ) x.d x.v) (a.put o.dst u) w':=by
   rcases af2 with hs|⟨hs,_,hs2⟩
   .rw[hs,← hxd];exact hR'.set x.d (by grind) x.v u hv
   .rw[hs];exact hR'.aon x.d (by omega) x.v (hxv hs)
  have W':Way R ops t0 (path.set i x):=W.set hy (by rw[hxd,hyd]);have apm:Fits R.D R.U (pick (path.set i x) 0 L'):=by
   refine W'.fits (Θ:=Θ) (Γ:=Γ) (base:=aP R.D st) hle λj o' z ho' hz hL=>?_;by_cases e:j=i
   .subst e;rw[List.getElem?_set_self hil]at hz;cases hz;rw[ho]at ho';cases ho';exact EY.agree (hself x)
   .rw[aui (au0 e)]at hz;rw[h j e]at hL;refine(hok j o' z ho' hz hL).agree λk hk=>?_
    grind
  rw[ajE hil hi hi' h apm (λy hy'=>by grind) (λhu j y hj hL hy'=>by
   grind [oH]) (AV.rC am9 _ _ hv) (λq y hq=>by
   have xG:(((qB x.k (after (aP R.D st) path L)).adds x.u).adds x.δ).ah q=some y:=by
    rw[qK,qK];rcases hq with hq|hq
    .rw[hq]
    .have:look x.δ q=none:=by
      cases hl:look x.δ q with
      |none=>rfl
      |some z=>have h1:=(hxu q y hq).2;rw[(qE hxn hl).trans hxd,hdD]at h1;cases h1
     rw[this,hq]
   refine⟨?_,aB.rC am9 y (hR'.ah q y xG)⟩
   grind)]at hset
  exact hK x γ' _ _ ⟨_,hy,by rw[hxd,hyd]⟩ (EY.agree (hself x)) hset
 have fin2:∀(x:dD)(γ':Nat->Value)(w':World)(u:Value),x.d=d->x.u=[]->(o.dst=none->False)->BB x.d x.δ=true->(∀q∈x.k,aO R.D (q / 64)=true/\q / 64≠d)->
  pO Θ Γ R (aP R.D st) path i o (lU R.F x)->Rel w0 M T γ' (((qB x.k (after (aP R.D st) path L)).adds []).adds x.δ) a w'->aQ (aj w0 T γ' (((qB x.k (after (aP R.D st) path L)).adds []).adds x.δ) w') x.v u->K (a.put o.dst u) w':=by
  intro x γ' w' u hxd hxu hno hxn hxk EY hR' hv;obtain⟨l1,l2,l3,l4⟩:=nC R.F x;refine fin (lU R.F x) γ' w' u (l1.trans hxd) (λh=>(hno h).elim) (λq y hy=>by rw[l2,hxu]at hy;cases hy) (atq.2 λy hy=>by rw[l1];exact atq.1 hxn y (l4 y hy)) (λhne=>(hne (l2.trans hxu)).elim) (by rw[l3];exact hxk) EY ?_ ?_
  all_goals
   rw[l3,l2,hxu];unfold lU;split
   .next q q' e r l fr _ hv2 hu2 hδ=>
    split
    .next hb=>
     have e1:=asX hb;subst e1;rw[hδ]at hR' hv hxn;rw[hv2]at hv;have hqd:q / 64=d:=by have:=asX (atq.1 hxn _ as9);exact this.trans hxd
     have hq0:(qB x.k (after (aP R.D st) path L)).ah q=none:=by rw[mQ];simp only[St.kill,hnone q hqd,aul];cases aO x.k q<;>rfl
     have:=al6 (hR.qB x.k) hq0 hR' hv
     first|exact this.1|exact this.2
    .first|exact hR'|exact hv
   .first|exact hR'|exact hv
 have hgv:∀g b y,o.guard=some (g,b)->(R.ms.getD i 0).testBit g=true->path[g]? =some y->∃og,ops[g]? =some og/\og.dst=some y.d/\∃u,a.tmps[y.d]? =some u/\aQ (aj w0 T γ (after (aP R.D st) path L) w) (y.v.kill (aO (nR (pick path 0 L)))) u:=by
  intro g b y hgo hg hy';obtain⟨hgl,_⟩:=ath.1 hy';have hog:ops[g]? =some (ops[g]'(by omega)):=by simp
  have aoq:(ops[g]'(by omega)).dst=some y.d:=by obtain⟨og,e,h1,h2⟩:=hgd i o g b ho hit hgo;rw[hog]at h1;cases h1;have:=W.dst g _ y hog hy';unfold rq at this;rw[h2]at this;rw[h2];exact this
  have hyD:y.d<st.n:=hDn g _ _ hog (by omega) aoq;have hin:y∈pick path 0 L:=(mP _ _).2 ⟨g,by rw[atS];exact hsub g hg,hy'⟩;have htm:(after (aP R.D st) path L).tmps y.d=y.v.kill (aO (nR (pick path 0 L))):=by unfold after;rw[mQ];show(vz (pick path 0 L) y.d _).kill _=_;rw[Tq _ hin λz hz e=>hfit.one y hin z hz e]
  have hr1:=hR.tmps y.d;rw[htm]at hr1;have hsz:y.d<a.tmps.size:=by rw[hR.size];unfold after;rw[mQ];exact hyD
  refine⟨_,hog,aoq,a.tmps[y.d],by simp,?_⟩;simpa[Array.getD,hsz]using hr1
 unfold wpOp;simp only[ho];rcases hcase with⟨hw,hcase⟩|hun
 .have hwant:Region.wanted o (yielded ops a.tmps)=true:=by
   rcases hw with e|⟨g,b,y,e1,e2,e3,e4⟩
   .unfold Region.wanted;rw[e]
   .obtain⟨og,k1,k2,u,k3,k4⟩:=hgv g b y e1 e2 e3;rw[e4]at k4;have k4:u=.bool b:=k4;subst k4;unfold Region.wanted;rw[e1];simp[yielded,k1,k2,k3]
  rw[if_pos hwant];left;rcases hcase with⟨he,ha,p,v,δ,hcalm,hp,hn⟩|⟨he,ha,p,q,y,happ,hp,hq1,hq2,hq3⟩|⟨he,hst,υ,hυ,hin⟩|⟨⟨he,hst⟩,p,ρ,os,hrel,hp,hall⟩
  .obtain⟨v',hc',hless⟩:=akF hmore d o.op hcalm;have hfr:iP (after (aP R.D st) path L) δ=true:=by refine atq.2 λz hz=>?_;rw[hnone z.1 (asX (atq.1 hn z hz))];rfl
   refine Ir hE hR o hc' hp hfr ?_;intro u γ' w' hR' hv';have ZV:aQ (aj w0 T γ' ((after (aP R.D st) path L).adds δ) w') v u:=by
    rcases hless with e|e
    .rw[e];trivial
    .rw[← e];exact hv'
   have EY:pO Θ Γ R (aP R.D st) path i o (lU R.F ⟨d,v,[],δ,[]⟩):=by obtain⟨l1,_⟩:=nC R.F ⟨d,v,[],δ,[]⟩;refine⟨by rw[l1];exact hd,hm,.inl ⟨hw,.inl ⟨he,ha,p,v,δ,by rw[l1];exact hcalm,hp,by rw[l1];exact hn,by rw[l1]⟩⟩⟩
   exact fin2 ⟨d,v,[],δ,[]⟩ γ' w' u rfl rfl (λh=>by
    rcases af2 with hs|⟨_,hs,_⟩
    .rw[h]at hs;cases hs
    .rw[aeX hs]at he;cases he) hn (λq hq=>by cases hq) EY hR' ZV
  .have apn:=aia hmore happ;have EY:pO Θ Γ R (aP R.D st) path i o (lU R.F ⟨d,.sv (.one (.ref (d*64+1))),[],[(d*64+1,y)],[q]⟩):=by obtain⟨l1,_⟩:=nC R.F ⟨d,.sv (.one (.ref (d*64+1))),[],[(d*64+1,y)],[q]⟩;refine⟨by rw[l1];exact hd,hm,.inl ⟨hw,.inr (.inl ⟨he,ha,p,q,y,happ,hp,by rw[l1];exact⟨hq1,hq2,hq3⟩,by rw[l1]⟩)⟩⟩
   have hkq:∀s:St,s.kill (aO [q])=s.kill (Nat.beq q ·):=λs=>by
    rw[show aO [q]=(Nat.beq q ·)from funext λo=>by
     simp only[aO];cases h1:Nat.beq o q with
     |true=>rw[asX h1,atX]
     |false=>
      cases h2:Nat.beq q o with
      |false=>rfl
      |true=>rw[asX h2,atX]at h1;cases h1]
   refine akN hE hR o (n:=d*64+1) apn hp (hnone (d*64+1) (anK d)) λu γ' w' hR' hv=>?_;rw[← hkq]at hR' hv;exact fin2 ⟨d,.sv (.one (.ref (d*64+1))),[],[(d*64+1,y)],[q]⟩ γ' w' u rfl rfl (λh=>by
    rcases af2 with hs|⟨_,hs,_⟩
    .rw[h]at hs;cases hs
    .rw[aeX hs]at he;cases he) (by show(Nat.beq ((d*64+1) / 64) d&&true)=true;rw[show(d*64+1) / 64=d by omega,atX];rfl)
    (λr hr=>by rw[show r=q by simpa using hr];exact⟨hq1,hq2⟩) EY hR' hv
  .have EY:pO Θ Γ R (aP R.D st) path i o ⟨d,.kZ [],υ,[],[]⟩:=⟨hd,hm,.inl ⟨hw,.inr (.inr (.inl ⟨he,hst,υ,hυ,hin,rfl⟩))⟩⟩;obtain⟨f1,f2,f3,_⟩:=EY.fit;refine adi hE hR hmore o hυ λγ' w' hR'=>?_;exact fin ⟨d,.kZ [],υ,[],[]⟩ γ' w' undef rfl (λ_=>rfl) f2 f1 (λ_=>hEi i o ho hit he) (λq hq=>by cases hq) EY hR' ⟨#[],rfl,trivial⟩
  .refine ag6 hE hR hmore o hrel hp hnone hall λt v υ δ u γ' w' ht hres hR' hv=>?_;have EY:pO Θ Γ R (aP R.D st) path i o ⟨d,v,υ,δ,[]⟩:=⟨hd,hm,.inl ⟨hw,.inr (.inr (.inr ⟨⟨he,hst⟩,rfl,p,ρ,os,t,hrel,hp,ht,hall,hres⟩))⟩⟩;obtain⟨f1,f2,f3,_⟩:=EY.fit;exact fin ⟨d,v,υ,δ,[]⟩ γ' w' u rfl (λh=>by
    rcases af2 with hs|⟨_,hs,_⟩
    .rw[h]at hs;cases hs
    .rw[hst]at hs;cases hs) f2 f1 (λ_=>hEi i o ho hit he) (λq hq=>by cases hq) EY hR' hv
 .have hwant:Region.wanted o (yielded ops a.tmps)=false:=by
   obtain⟨g,b,y,e1,e2,e3,e4⟩:=hun;obtain⟨og,k1,k2,u,k3,k4⟩:=hgv g b y e1 e2 e3;unfold Region.wanted;rw[e1];rcases e4 with⟨c,e4,hne'⟩|⟨vs,e4⟩
   .rw[e4]at k4;have k4:u=.bool c:=k4;subst k4;cases c<;>cases b<;>first|(exact(hne' rfl).elim)|simp[yielded,k1,k2,k3]
   .rw[e4]at k4;obtain⟨us,rfl,_⟩:=k4;simp[yielded,k1,k2,k3]
  rw[if_neg (by rw[hwant];simp)];exact fin (skipped d) γ w undef rfl (λ_=>rfl) (λq y hy=>by cases hy) rfl (λhu=>(hu rfl).elim) (λq hq=>by cases hq) ⟨hd,hm,.inr ⟨hun,rfl⟩⟩ hR ⟨#[],rfl,trivial⟩
theorem fill{G:iV}(hE:EnvB P G Θ Γ){R:Reg}{base:St}{front:List Oper}{path:List dD}{L:Nat->Bool}
 (OZ:∀ext:List dD,Ya Θ Γ R base front ext->∀o,front[ext.length]? =some o->Enabled Θ Γ R base ext ext.length o)
 (hok:∀j o x,front[j]? =some o->path[j]? =some x->L j=true->pO Θ Γ R base path j o x) (hlen:path.length=front.length)
 (hcl:∀j k,L j=true->(R.ms.getD j 0).testBit k=true->L k=true):
 ∀n,n<=front.length->∃ext:List dD,ext.length=n/\Ya Θ Γ R base front ext/\∀j,j<n->L j=true->ext[j]? =path[j]? :=by
 intro n
 induction n with
 |zero=>exactλ_=>⟨[],rfl,(λi o x _ hx=>by simp at hx),(λj hj=>by omega)⟩
 |succ n ih=>
  intro hn;obtain⟨ext,h1,h2,h3⟩:=ih (by omega);have ho:front[n]? =some (front[n]'(by omega)):=by simp
  have more:∀x:dD,pO Θ Γ R base (ext++[x]) n (front[n]'(by omega)) x->Ya Θ Γ R base front (ext++[x]):=by
   intro x hx i o y hi hy;rcases atm i n with hlt|hge
   .rw[ajB (by omega)]at hy;have:=h2 i o y hi hy;refine this.agree λj hj=>?_;have:j<i:=by
     rcases atm j i with h|h
     .exact h
     .rw[oH this.2.1 h]at hj;cases hj
    grind
   grind
  cases hL:L n with
  |true=>
   have hp:path[n]? =some (path[n]'(by omega)):=by simp
   have hx:=hok n _ _ ho hp hL;have hag:∀j,(R.ms.getD n 0).testBit j=true->path[j]? =(ext++[path[n]'(by omega)])[j]? :=λj hj=>by
    have hjn:j<n:=by
     rcases atm j n with h|h
     .exact h
     .rw[oH hx.2.1 h]at hj;cases hj
    grind
   refine⟨ext++[path[n]'(by omega)],by simp[h1],more _ (hx.agree hag),λj hj hLj=>?_⟩
   grind
  |false=>
   have hen:=OZ ext h2 _ (by rw[h1];exact ho);rw[h1]at hen;have hag:∀x:dD,(∃d,rq R.n n (front[n]'(by omega))=some d/\R.ms.getD n 0<2 ^ n)->∀j,(R.ms.getD n 0).testBit j=true->ext[j]? =(ext++[x])[j]? :=λx⟨_,_,hm⟩ j hj=>by
    grind [oH]
   obtain⟨d,hd,hm,hc⟩:=hen;have hx:∃x,pO Θ Γ R base ext n (front[n]'(by omega)) x:=by
    rcases hc with⟨hw,⟨he,ha,p,v,δ,hcalm,hp,hnm⟩|⟨he,ha,p,q,y,happ,hp,hq⟩|⟨he,hst,υ,hυ,hin⟩|⟨⟨he,hst⟩,p,ρ,os,hrel,hp,hall⟩⟩|hun
    .exact⟨lU R.F ⟨d,v,[],δ,[]⟩,by grind [nC],hm,.inl ⟨hw,.inl ⟨he,ha,p,v,δ,by grind [nC],hp,by grind [nC],by grind [nC]⟩⟩⟩
    .exact⟨lU R.F ⟨d,.sv (.one (.ref (d*64+1))),[],[(d*64+1,y)],[q]⟩,by grind [nC],hm,.inl ⟨hw,.inr (.inl ⟨he,ha,p,q,y,happ,hp,by grind [nC],by grind [nC]⟩)⟩⟩
    .exact⟨⟨d,.kZ [],υ,[],[]⟩,hd,hm,.inl ⟨hw,.inr (.inr (.inl ⟨he,hst,υ,hυ,hin,rfl⟩))⟩⟩
    .have hne:∃t,ρ.R t:=by
      unfold NG at hrel;split at hrel
      case h_2=>cases hrel
      next f args ny hop=>
      split at hrel
      case h_2=>cases hrel
      next ms con hcon=>
      split at hrel
      case h_2=>cases hrel
      next vs os' SN=>
      split at hrel
      case h_2=>cases hrel
      split at hrel
      case h_2=>cases hrel
      next q ρ' hq=>
      cases hrel;exact((hE.afW f ms con hcon).1 vs _ ρ hq hp).1
     obtain⟨t,ht⟩:=hne;obtain⟨⟨v,υ,δ⟩,hres⟩:=hall t ht;exact⟨⟨d,v,υ,δ,[]⟩,hd,hm,.inl ⟨hw,.inr (.inr (.inr ⟨⟨he,hst⟩,rfl,p,ρ,os,t,hrel,hp,ht,hall,hres⟩))⟩⟩
    .exact⟨skipped d,hd,hm,.inr ⟨hun,rfl⟩⟩
   obtain⟨x,hx⟩:=hx;refine⟨ext++[x],by simp[h1],more x (hx.agree (hag x ⟨d,hd,hm⟩)),λj hj hLj=>?_⟩
   grind
end Go.Fw
namespace Go.Fw
open Go
variable {P:Program}
def handsOn(o:Oper):Option Operand:=match o.op,o.guard with
 |.move x,none=>some x
 |.extract x _,none=>some x
 |_,_=>none
def Operand.JB(d:Nat):Operand->Bool
 |.tmp t=>!(Nat.beq t d)
 |_=>true
def Yb(d:Nat)(o:Oper):Bool:=match o.op,o.guard with
 |.move x,none|.assign x,none|.extract x _,none=>Operand.JB d x
 |.store _ a x,none=>Operand.JB d a&&Operand.JB d x
 |_,_=>false
def passes(f o:Oper):Bool:=match handsOn f,f.dst with
 |some x,some d=>Yb d o&&(match o.dst with|some e=>!(Nat.beq e d)&&Operand.JB e x|none=>true)
 |_,_=>false
theorem eval_put_ne{a:Act}{d:Option Tmp}{v:Value}{x:Operand}(h:∀e,d=some e->Operand.JB e x=true):(a.put d v).eval x=a.eval x:=by
 cases d with
 |none=>rfl
 |some e=>
  cases x with
  |tmp t=>
   have hne:e≠t:=λh=>by simp_all [Operand.JB]
   show(a.tmps.setIfInBounds e v).getD t undef=a.tmps.getD t undef
   simp_all
  |const _=>rfl
  |global _=>rfl
  |func _=>rfl
theorem put_comm{a:Act}{d e:Option Tmp}{u v:Value}(h:∀x y,d=some x->e=some y->x≠y):(a.put d u).put e v=(a.put e v).put d u:=by
 cases d with
 |none=>rfl
 |some x=>cases e with
  |none=>rfl
  |some y=>
   grind [Act.put,Array.setIfInBounds_comm]
theorem ag7{f:Oper}{x:Operand}(hf:handsOn f=some x):f.guard=none/\
 ((∃g:Value->Option Value,(∀b:Act,∀w',(match g (b.eval x)with|some u=>(execOp b.eval f).run P w'=.ok (.value u) w'|none=>∃m,(execOp b.eval f).run P w'=m/\∀next Q,¬f.upon P b next Q m)))):=by
 unfold handsOn at hf;split at hf
 .next y hop hg=>cases hf;exact⟨hg,λv=>some v,λb w'=>by simp[execOp,hop]⟩
 .next y ix hop hg=>
  cases hf;refine⟨hg,λv=>match v with|.tuple vs=>vs[ix]? |_=>none,λb w'=>?_⟩;cases hv:b.eval x with
  |tuple vs=>
   cases hq:vs[ix]? with
   |some u=>simp_all [execOp,Instr.extract]
   |none=>
    simp_all [execOp,Instr.extract,Oper.upon]
  |_=>simp[execOp,hop,hv,Instr.extract,stuck,Oper.upon]
 .cases hf
theorem afv{d:Nat}{o:Oper}(h:Yb d o=true):o.guard=none/\
 (∀(a:Act)(v:Value),execOp (a.put (some d) v).eval o=execOp a.eval o)/\
 (∀(a:Act)(w:World),(∃v w',(execOp a.eval o).run P w=.ok (.value v) w')\/(∃w',(execOp a.eval o).run P w=.ok .skip w')\/∃x w',(execOp a.eval o).run P w=.halt x w'):=by
 unfold Yb at h;have ev:∀(a:Act)(v:Value)(x:Operand),Operand.JB d x=true->(a.put (some d) v).eval x=a.eval x:=λa v x hx=>eval_put_ne λe he=>by grind
 split at h
 · simp_all [execOp]
 · simp_all [execOp]
 .next x ix hop hg=>
  refine⟨hg,λa v=>?_,λa w=>?_⟩
  · grind [execOp]
  .cases hr:(Instr.extract (a.eval x) ix).run P w with
   |ok u w'=>simp_all [execOp]
   |halt u w'=>simp_all [execOp]
 .next t b x hop hg=>
  refine⟨hg,λa v=>?_,λa w=>?_⟩
  · grind [execOp]
  .cases hr:(Instr.storeAt t (a.eval b) (a.eval x)).run P w with
   |ok u w'=>simp_all [execOp]
   |halt u w'=>simp_all [execOp]
 .cases h
def stepW(P:Program)(ops:Array Oper)(Q:Exit->Act->World->Prop)(o:Oper)(K:Act->World->Prop)(a:Act)(w:World):Prop:=
 if Region.wanted o (yielded ops a.tmps)then o.wp P a w K Q\/(o.asks P a w/\LetsOut Q)else K (a.put o.dst undef) w
theorem O0{ops:Array Oper}{Q:Exit->Act->World->Prop}{o:Oper}{K K':Act->World->Prop}{a:Act}{w:World}(h:∀a w,K a w->K' a w)(hs:stepW P ops Q o K a w):stepW P ops Q o K' a w:=by
 grind [stepW,Oper.wp_mono]
theorem IJ{ops:Array Oper}{Q:Exit->Act->World->Prop}(hO:¬LetsOut Q){o:Oper}(hg:o.guard=none){K:Act->World->Prop}{a:Act}{w:World}:stepW P ops Q o K a w↔o.wp P a w K Q:=by
 grind [Region.wanted,stepW]
theorem ajJ{ops:Array Oper}{Q:Exit->Act->World->Prop}(hQ:∀c a w,¬Q (.panic c) a w)(hO:¬LetsOut Q){f o:Oper}(h:passes f o=true){K:Act->World->Prop}{a:Act}{w:World}
 (hs:stepW P ops Q f (stepW P ops Q o K) a w):stepW P ops Q o (stepW P ops Q f K) a w:=by
 unfold passes at h;split at h
 .next x d hx hd=>
  rw[as1]at h;obtain⟨hp,hde⟩:=h;obtain⟨hgf,g,hg⟩:=ag7 (P:=P) hx;obtain⟨hgo,hsame,hout⟩:=afv (P:=P) hp;rw[IJ hO hgf]at hs;rw[IJ hO hgo];have hxo:∀(v:Value),(a.put o.dst v).eval x=a.eval x:=λv=>eval_put_ne λe he=>by
   grind
  have hcomm:∀(u v:Value),(a.put f.dst u).put o.dst v=(a.put o.dst v).put f.dst u:=λu v=>put_comm λx y hx hy=>by intro e;simp_all
  have h0:=hg a w;cases hga:g (a.eval x)with
  |none=>
   grind [Oper.wp]
  |some u=>
   rw[hga]at h0;unfold Oper.wp at hs;rw[h0]at hs;have hs:stepW P ops Q o K (a.put f.dst u) w:=hs;rw[IJ hO hgo]at hs;unfold Oper.wp at hs ⊢;rw[hd,hsame]at hs;rw[← hd]at hs;have again:∀(v:Value)(w':World),K ((a.put f.dst u).put o.dst v) w'->stepW P ops Q f K (a.put o.dst v) w':=by
    intro v w' hK;rw[IJ hO hgf];have h1:=hg (a.put o.dst v) w';rw[hxo,hga]at h1;unfold Oper.wp;rw[h1];show K _ _
    grind
   rcases hout a w with⟨v,w',hr⟩|⟨w',hr⟩|⟨y,w',hr⟩
   .rw[hr]at hs ⊢;exact again v w' hs
   .rw[hr]at hs ⊢;exact again undef w' hs
   .rw[hr]at hs;cases y<;>simp only[Oper.upon]at hs
    grind
 .cases h
def Ho(P:Program)(ops:Array Oper)(Q:Exit->Act->World->Prop)(K:Act->World->Prop):List Oper->Act->World->Prop
 |[]=>K
 |o::r=>stepW P ops Q o (Ho P ops Q K r)
theorem Xm{ops:Array Oper}{Q:Exit->Act->World->Prop}:∀(l:List Oper),Ho P ops Q (Q .normal) l=wpList P ops Q l
 |[]=>rfl
 |o::r=>by rw[Ho,Xm r];rfl
theorem Yc{ops:Array Oper}{Q:Exit->Act->World->Prop}(hQ:∀c a w,¬Q (.panic c) a w)(hO:¬LetsOut Q){o:Oper}{K:Act->World->Prop}(B:List Oper):
 ∀(A:List Oper)(a:Act)(w:World),(∀f∈A,passes f o=true)->Ho P ops Q K (A++o::B) a w->stepW P ops Q o (Ho P ops Q K (A++B)) a w
 |[],_,_,_,hs=>hs
 |f::A,a,w,h,hs=>by exact ajJ hQ hO (h f as9) (O0 (λa w h'=>Yc hQ hO B A a w (λf hf=>h f (as8 _ hf)) h') hs)
theorem wpOp_step{ops:Array Oper}{Q:Exit->Act->World->Prop}{i:Nat}{o:Oper}(ho:ops[i]? =some o){K:Act->World->Prop}{a:Act}{w:World}:wpOp P ops Q i K a w↔stepW P ops Q o K a w:=by
 grind [wpOp,stepW]
theorem TA{ops:Array Oper}{listed:Array Bool}(hcl:∀i j,listed.getD i false=true->((masks ops.toList []).getD i 0).testBit j=true->listed.getD j false=true){i:Nat}{o:Oper}(ho:ops[i]? =some o)
 (hi:i∈Region.ready .any ops listed) (j:Nat) (hj:((masks ops.toList []).getD i 0).testBit j=true):listed.getD j false=true:=by
 obtain⟨o',ho',hn,hall⟩:=Ae.1 hi;obtain⟨e,he,hb,hej⟩:=ak2 (ops:=ops.toList) (i:=i) (o:=o) (by simpa using ho) hj
 grind
theorem al9{ops:Array Oper}{Q:Exit->Act->World->Prop}(hQ:∀c a w,¬Q (.panic c) a w)(hO:¬LetsOut Q){t0:Nat}{S:Nat->Prop}
 (hfl:∀i o j f,ops[i]? =some o->ops[j]? =some f->j<i->t0<=i\/(S i/\S j)->((masks ops.toList []).getD i 0).testBit j=true\/(S j/\passes f o=true)) (hS:∀j,S j->j<t0)
 (hlt:∀i o,ops[i]? =some o->(masks ops.toList []).getD i 0<2 ^ i):
 ∀(fuel:Nat)(F:List (Nat×Oper))(l:List Oper)(k:Nat)(listed:Array Bool)(a:Act)(w:World),t0<=k->k<=ops.size->(∀j,l[j]? =ops[k+j]?)->listed.size=ops.size->
  (∀x∈F,ops[x.1]? =some x.2/\S x.1)->F.Pairwise (λx y=>x.1<y.1)->
  (∀i,i<ops.size->(listed.getD i false=true↔i<k/\∀x∈F,x.1≠i))->
  (∀i j,listed.getD i false=true->((masks ops.toList []).getD i 0).testBit j=true->listed.getD j false=true)->
  F.length+ops.size<=k+fuel->Ho P ops Q (Q .normal) (F.map (·.2)++l) a w->wpAny P .any ops Q fuel listed a w:=by
 intro fuel;have aor:∀{i:Nat}{o:Oper},ops[i]? =some o->∀e∈o.after,Region.binds .any e=true->e.on<i:=by
  intro i o ho e he hb;have ajK:=aeS (ops:=ops.toList) (i:=i) (o:=o) (by simpa using ho) he hb
  grind [oH]
 have anM:∀(k:Nat)(l:List Oper)(listed:Array Bool),(∀j,l[j]? =ops[k+j]?)->listed.size=ops.size->(∀i,i<ops.size->(listed.getD i false=true↔i<k/\∀x∈([]:List (Nat×Oper)),x.1≠i))->l=[]->Region.ready .any ops listed=[]:=by
  intro k l listed hl hsz hL hnil;have hend:ops.size<=k:=by
   rcases atm k ops.size with h|h
   .have:=hl 0;grind
   .exact h
  refine List.eq_nil_iff_forall_not_mem.2 λi hi=>?_
  grind [Ae]
 induction fuel with
 |zero=>
  intro F l k listed a w hk hkz hl hsz hF hp hL hcl hf hw;have hk2:ops.size<=k/\F.length=0:=by omega
  obtain⟨hk2,hF0⟩:=hk2;have hFn:F=[]:=atH.1 hF0;subst hFn;have hln:l=[]:=by
   cases l with
   |nil=>rfl
   |cons o l=>have:=hl 0;grind
  subst hln;exact wpAny_done (anM k [] listed hl hsz hL rfl) hw 0
 |succ fuel ih=>
  intro F l k listed a w hk hkz hl hsz hF hp hL hcl hf hw;have hset:∀i,i<listed.size->∀j,(listed.setIfInBounds i true).getD j false=(if j=i then true else listed.getD j false):=by
   intro i hi j;split
   · simp_all
   .next e=>exact getD_set_ne false (au0 e)
  have ak5:∀i o,ops[i]? =some o->i∈Region.ready .any ops listed->∀j m,(listed.setIfInBounds i true).getD j false=true->((masks ops.toList []).getD j 0).testBit m=true->(listed.setIfInBounds i true).getD m false=true:=by
   intro i o ho hi j m hj hm;obtain⟨hi1,_⟩:=as2.1 ho
   grind [TA]
  refine⟨λhnone=>?_,λi hi=>?_⟩
  .cases F with
   |cons x F=>
    exfalso;obtain⟨hx1,hx2⟩:=hF x as9;have asG:=hS _ hx2;obtain⟨hxs,_⟩:=as2.1 hx1;have hun:listed.getD x.1 true=false:=by
     grind
    have:x.1∈Region.ready .any ops listed:=by
     grind [Ae,List.pairwise_cons]
    grind
   |nil=>
    cases l with
    |nil=>exact hw
    |cons o l=>
     exfalso;have ho:ops[k]? =some o:=by simpa using(hl 0).symm
     obtain⟨hks,_⟩:=as2.1 ho;have hun:listed.getD k true=false:=by
      rw[KU (by omega)];cases hb:listed.getD k false with
      |false=>rfl
      |true=>have:=((hL k hks).1 hb).1;omega
     have:k∈Region.ready .any ops listed:=by refine Ae.2 ⟨o,ho,hun,λe he hb=>?_⟩;have aos:=aor ho e he hb;exact(hL e.on (by omega)).2 ⟨by omega,λy hy=>by cases hy⟩
     grind
  .obtain⟨o,ho,hn,_⟩:=Ae.1 hi;obtain⟨his,_⟩:=as2.1 ho;have hun:listed.getD i false=false:=by rw[← KU (by omega)];exact hn
   have hsub:=TA hcl ho hi;rw[wpOp_step ho];by_cases hFi:∃x∈F,x.1=i
   .obtain⟨x,hxF,rfl⟩:=hFi;obtain⟨A,B,rfl⟩:=List.append_of_mem hxF;obtain⟨hx1,hx2⟩:=hF x hxF;rw[ho]at hx1;have hxo:x.2=o:=(Option.some.inj hx1).symm;have hpA:∀y∈A,y.1<x.1:=λy hy=>(auX.1 hp).2.2 y hy x as9;have hpB:∀y∈B,x.1<y.1:=λy hy=>(atZ.1 (auX.1 hp).2.1).1 y hy;have hw2:Ho P ops Q (Q .normal) (A.map (·.2)++o::(B.map (·.2)++l)) a w:=by rw[atE,att,hxo,atz]at hw;exact hw
    refine O0 ?_ (Yc hQ hO _ _ a w (λf hf=>?_) hw2)
    .intro a' w' h';refine ih (A++B) l k _ a' w' hk hkz hl (by simpa using hsz) (λy hy=>hF y ?_) ?_ ?_ (ak5 x.1 o ho hi) ?_ (by rw[atE,atz];exact h')
     .rcases atA.1 hy with h|h
      .exact atK _ h
      .exact aue _ (as8 _ h)
     .rw[auX]at hp ⊢;exact⟨hp.1,(atZ.1 hp.2.1).2,λy hy z hz=>hp.2.2 y hy z (as8 _ hz)⟩
     .intro j hj;rw[hset x.1 (by omega)];split
      .next e=>
       subst e;refine⟨λ_=>⟨by have:=hS _ hx2;omega,λy hy=>?_⟩,λ_=>rfl⟩;rcases atA.1 hy with h|h
       .have:=hpA y h;omega
       .have:=hpB y h;omega
      .next e=>
       rw[hL j hj];refine and_congr_right λ_=>⟨λh y hy=>?_,λh y hy=>?_⟩
       .rcases atA.1 hy with h'|h'
        .exact h y (atK _ h')
        .exact h y (aue _ (as8 _ h'))
       .rcases atA.1 hy with h'|h'
        .exact h y (atK _ h')
        .rcases atw.1 h' with rfl|h'
         .exactλe'=>e e'.symm
         .exact h y (aue _ h')
     .simp only[as4,asY]at hf ⊢;omega
    .obtain⟨y,hy,rfl⟩:=atY.1 hf;obtain⟨hy1,hy2⟩:=hF y (atK _ hy);obtain⟨hys,_⟩:=as2.1 hy1;rcases hfl x.1 o y.1 y.2 ho hy1 (hpA y hy) (.inr ⟨hx2,hy2⟩)with hb|hb
     .have:=((hL y.1 hys).1 (hsub y.1 hb)).2 y (atK _ hy) rfl;exact this.elim
     .exact hb.2
   .have hge:k<=i:=by
     rcases atm i k with h|h
     .have:=(hL i his).2 ⟨h,λx hx e=>hFi ⟨x,hx,e⟩⟩;rw[hun]at this;cases this
     .exact h
    have hik:i=k:=by
     rcases atm k i with h|h
     .exfalso;have hok:∃f,ops[k]? =some f:=⟨ops[k]'(by omega),by simp⟩;obtain⟨f,hof⟩:=hok;rcases hfl i o k f ho hof h (.inl (by omega))with hb|hb
      .have:=((hL k (by omega)).1 (hsub k hb)).1;omega
      .have:=hS _ hb.1;omega
     .omega
    subst hik;cases l with
    |nil=>have:=hl 0;rw[auE,ho]at this;cases this
    |cons o' l=>
     have ho':ops[i]? =some o':=by simpa using(hl 0).symm
     rw[ho]at ho';cases ho';refine O0 ?_ (Yc hQ hO _ _ a w (λf hf=>?_) hw)
     .intro a' w' h';refine ih F l (i+1) _ a' w' (by omega) (by omega) (λj=>by have:=hl (j+1);simpa[Nat.add_assoc,Nat.add_comm 1 j]using this) (by simpa using hsz) hF hp ?_ (ak5 i o ho hi) (by omega) h';intro j hj;rw[hset i (by omega)];split
      .next e=>subst e;exact⟨λ_=>⟨by omega,λx hx e=>hFi ⟨x,hx,e⟩⟩,λ_=>rfl⟩
      .next e=>rw[hL j hj];exact and_congr_left λ_=>by omega
     .obtain⟨y,hy,rfl⟩:=atY.1 hf;obtain⟨hy1,hy2⟩:=hF y hy;obtain⟨hys,_⟩:=as2.1 hy1;have:=hS _ hy2;rcases hfl i o y.1 y.2 ho hy1 (by omega) (.inl hk)with hb|hb
      .exact(((hL y.1 hys).1 (hsub y.1 hb)).2 y hy rfl).elim
      .exact hb.2
end Go.Fw
namespace Go.Fw
open Go
variable {P:Program} {w0:World} {M:Nat->Prop} {T:Ext} {γ γ':Nat->Value} {st:St} {a:Act} {w w':World} {Θ:gY} {Γ:je}
def ag8:Op->Bool
 |.store _ _ _=>false
 |.call {callee:=.builtin .append,.. }|.call {callee:=.builtin .copy,.. }|.call {callee:=.builtin .clear,.. }=>false
 |_=>true
def ajL(m:List Nat)(o:Oper):Bool:=match o.op,o.guard with
 |.call {callee:=.builtin .append,args,.. },none=>match args.toList with
  |.tmp t::_=>aO m t
  |_=>false
 |_,_=>false
def madeBy(m:List Nat)(o:Oper):List Nat:=match o.op,o.dst with
 |.buildSlice _ _ _,some d=>d::m
 |.call {callee:=.builtin .append,.. },some d=>d::m
 |_,_=>m
def TB:List Nat->List Oper->Nat
 |_,[]=>0
 |m,o::r=>match ag8 o.op||ajL m o with|true=>TB (madeBy m o) r+1|false=>0
def TD:List Nat->List Oper->Nat
 |_,[]=>0
 |m,o::r=>match ag8 o.op||(ajL m o||vZ o.op)with|true=>TD (madeBy m o) r+1|false=>0
def aiO(m:List Nat)(o:Oper):List Nat:=match o.op,o.dst with
 |.call {callee:=.value (.func _),.. },some d=>d::m
 |_,_=>madeBy m o
def aay:List Nat->List Oper->Nat
 |_,[]=>0
 |m,o::r=>match ag8 o.op||(ajL m o||vZ o.op)with|true=>aay (aiO m o) r+1|false=>0
def TF:Nat->List Oper->List (Nat×Nat)
 |_,[]=>[]
 |i,o::r=>match o.op with
  |.call {callee:=.builtin .append,args,.. }=>match args.toList with
   |.tmp t::_=>(i,t*64+1)::TF (i+1) r
   |_=>TF (i+1) r
  |_=>TF (i+1) r
def ak6(R:Reg):Bool:=R.A.all λx=>match idxOf R.D (x.2 / 64) 0 with
 |some j=>(R.ms.getD x.1 0).testBit j
 |none=>false
theorem ag9{e q:Nat}:∀(A:List (Nat×Nat)),Gg A e q=true->(e,q)∈A
 |[],h=>by cases h
 |(e',q')::r,h=>by
  rw[Gg]at h;split at h
  .next hb=>rw[as1]at hb;rw[asX hb.1,asX hb.2];exact as9
  .exact as8 _ (ag9 r h)
theorem aif{R:Reg}(h:ak6 R=true)(e q:Nat)(hm:Gg R.A e q=true):∃j,idxOf R.D (q / 64) 0=some j/\(R.ms.getD e 0).testBit j=true:=by
 have:=atq.1 h _ (ag9 _ hm)
 grind
def Hq:Nat->List Nat->Bool
 |_,[]=>true
 |i,m::r=>Nat.beq (m+1) (2 ^ i)&&Hq (i+1) r
def ak7(t0:Nat)(ms:List Nat):List Nat:=(List.range t0).filter λj=>!((ms.drop t0).all λm=>m.testBit j)
def aaz(ops:List Oper)(j i:Nat):Bool:=match ops[j]?,ops[i]? with
 |some f,some o=>passes f o
 |_,_=>false
def lateRow(ops:List Oper)(S:List Nat)(m i:Nat):Bool:=(List.range i).all λj=>m.testBit j||(aO S j&&aaz ops j i)
def aha(ops:List Oper)(t0:Nat)(ms:List Nat)(S:List Nat):Bool:=
 (List.range ops.length).all λi=>match Nat.ble t0 i with
   |true=>Nat.blt (ms.getD i 0) (2 ^ i)&&lateRow ops S (ms.getD i 0) i
   |false=>match aO S i with
    |true=>S.all λj=>Nat.ble i j||((ms.getD i 0).testBit j||aaz ops j i)
    |false=>true
def NI(ops:List Oper)(t0:Nat)(ms:List Nat):Bool:=match Hq t0 (ms.drop t0)with
 |true=>true
 |false=>aha ops t0 ms (ak7 t0 ms)
def front(l:List Oper):Nat:=match NI l (TB [] l) (masks l [])with
 |true=>TB [] l
 |false=>match NI l (TD [] l) (masks l [])with|true=>TD [] l|false=>aay [] l
def ahb(l:List Oper):Bool:=l.all λo=>match o.guard with
 |some (g,_)=>match l[g]? with
  |some og=>og.dst.isSome
  |none=>false
 |none=>true
def aiP(n:Nat)(l:List Oper):Bool:=l.all λo=>match o.dst with|some d=>Nat.blt d n|none=>true
def aaA(own:Nat->Bool):List Oper->List Nat
 |[]=>[]
 |o::r=>match agG o.op,o.dst with
  |true,some d=>match own d with|true=>aaA own r|false=>d::aaA own r
  |_,_=>aaA own r
def adk(own:Nat->Bool)(l:List Oper)(s:St):St:=
 match aaA own l with
 |[]=>s
 |z=>s.freeze λo=>aO z (o / 64)&&!(Nat.beq (o%64) 0)
def Vz(d:Nat):List (Nat×Operand)->Bool
 |[]=>false
 |(_,.tmp t)::r=>Nat.beq t d||Vz d r
 |_::r=>Vz d r
def apo(l:List Oper)(d:Nat):Bool:=l.any λb=>match b.op,b.dst with
 |.build _ ps,some e=>Vz d ps.toList&&l.any λc=>match c.op with|.buildSlice _ _ qs=>Vz e qs.toList|_=>false
 |_,_=>false
def O1(l0:List Oper):List Oper->List Nat
 |[]=>[]
 |o::r=>match Vy o.op,o.dst with
  |true,some d=>match apo l0 d with|true=>d::O1 l0 r|false=>O1 l0 r
  |_,_=>O1 l0 r
def anN(own:Nat->Bool)(l:List Oper):List Nat:=(aaA own l++O1 l l).filter λd=>!((TF 0 l).any λx=>Nat.beq x.2 (d*64+1))
def oI(n:Nat)(own:Nat->Bool)(Γ:je)(U:List Nat)(ops:List Oper):Reg:=⟨dstsOf n 0 (ops.take (front ops)),U,masks ops [],ND Γ 0 (ops.take (front ops)),TF 0 (ops.take (front ops)),n,anN own (ops.take (front ops))⟩
def KN(Θ:gY)(Γ:je)(own:Nat->Bool)(U:List Nat)(ops:List Oper)(K:St->Prop)(st:St):Prop:=
 match nodup (oI st.n own Γ U ops).D&&(aiP st.n (ops.take (front ops))&&(NI ops (front ops) (oI st.n own Γ U ops).ms&&((oI st.n own Γ U ops).E.all (ET (oI st.n own Γ U ops).ms (oI st.n own Γ U ops).E)&&(ak6 (oI st.n own Γ U ops)&&ahb ops))))with
 |true=>qU Θ Γ (oI st.n own Γ U ops) (aP (oI st.n own Γ U ops).D st) (λpath=>
   runs Θ Γ own ops K (ops.drop (front ops)) (adk own (ops.take (front ops)) (after (aP (oI st.n own Γ U ops).D st) path λ_=>true))) 0 (ops.take (front ops)) []
 |false=>False
theorem aeY:∀(m:List Nat)(l:List Oper),TB m l<=l.length
 |_,[]=>as7 _
 |m,o::r=>by
  rw[TB];split
  .have:=aeY (madeBy m o) r;rw[asY];omega
  .exact atl _
theorem aeZ:∀(m:List Nat)(l:List Oper),TD m l<=l.length
 |_,[]=>as7 _
 |m,o::r=>by
  rw[TD];split
  .have:=aeZ (madeBy m o) r;rw[asY];omega
  .exact atl _
theorem ae0:∀(m:List Nat)(l:List Oper),aay m l<=l.length
 |_,[]=>as7 _
 |m,o::r=>by
  rw[aay];split
  .have:=ae0 (aiO m o) r;rw[asY];omega
  .exact atl _
theorem ama(l:List Oper):front l<=l.length:=by
 grind [front,aeY,aeZ,ae0]
theorem afw{l:List Oper}(h:ahb l=true){i:Nat}{o:Oper}{g:Nat}{b:Bool}(ho:l[i]? =some o)(hg:o.guard=some (g,b)):∃og d,l[g]? =some og/\og.dst=some d:=by
 have:=atq.1 h o (atB ho)
 grind [Option.isSome_iff_exists]
theorem ahc{n:Nat}{l:List Oper}(h:aiP n l=true){i:Nat}{o:Oper}{d:Nat}(ho:l[i]? =some o)(hd:o.dst=some d):d<n:=by
 have:=atq.1 h o (atB ho)
 simp_all
theorem Xn:∀{l:List Nat}{k:Nat},Hq k l=true->∀i m,l[i]? =some m->m+1=2 ^ (k+i)
 |[],_,_,i,m,hm=>by simp at hm
 |x::r,k,h,0,m,hm=>by
  grind [Hq,Nat.eq_of_beq_eq_true]
 |x::r,k,h,i+1,m,hm=>by
  rw[Hq,as1]at h;have:=Xn h.2 i m (by simpa using hm)
  grind
theorem TG:∀(l:List Oper)(acc:List Nat),(masks l acc).length=acc.length+l.length
 |[],acc=>by simp[masks]
 |o::r,acc=>by rw[masks,TG r];simp;omega
theorem aaB:∀{l:List Nat},nodup l=true->∀(i j:Nat)(x:Nat),l[i]? =some x->l[j]? =some x->i=j
 |[],_,i,j,x,hi,_=>by simp at hi
 |y::r,h,i,j,x,hi,hj=>by
  rw[nodup,as1]at h;have hno:y ∉ r:=λhm=>by have:=qC.2 hm;rw[this]at h;simp at h
  match i,j with
  |0,0=>rfl
  |0,j+1=>simp at hi hj;exact(hno (hi▸atB hj)).elim
  |i+1,0=>simp at hi hj;exact(hno (hj▸atB hi)).elim
  |i+1,j+1=>rw[aaB h.2 i j x hi hj]
theorem IK{n:Nat}:∀{l:List Oper}{k:Nat},(∀(i:Nat)(o:Oper),l[i]? =some o->∃d,rq n (k+i) o=some d)->∀(i:Nat)(o:Oper)(d:Nat),l[i]? =some o->rq n (k+i) o=some d->(dstsOf n k l)[i]? =some d
 |[],_,_,i,o,d,hi,_=>by simp at hi
 |x::r,k,h,i,o,d,hi,hd=>by
  obtain⟨e,he⟩:=h 0 x rfl;rw[auE]at he;rw[dstsOf,he]
  match i with
  |0=>grind
  |i+1=>simp;exact IK (k:=k+1) (λj o' hj=>by rw[show k+1+j=k+(j+1) by omega];simp_all) i o d (by simpa using hi) (by grind)
theorem ahd{ops:List Oper}{S:List Nat}{m i:Nat}(h:lateRow ops S m i=true){j:Nat}(hj:j<i){o f:Oper}(ho:ops[i]? =some o)(hf:ops[j]? =some f):m.testBit j=true\/(aO S j=true/\passes f o=true):=by
 have:=atq.1 h j (auG.2 hj)
 grind [aaz]
theorem Qv{ops:List Oper}{t0:Nat}{ms S:List Nat}(h:aha ops t0 ms S=true){i:Nat}{o:Oper}(ho:ops[i]? =some o):
 (t0<=i->ms.getD i 0<2 ^ i)/\∀{j:Nat}{f:Oper},ops[j]? =some f->j<i->t0<=i\/(aO S i=true/\aO S j=true)->(ms.getD i 0).testBit j=true\/(aO S j=true/\passes f o=true):=by
 obtain⟨hi,_⟩:=ath.1 ho;have:=atq.1 h i (auG.2 hi)
 grind [Nat.blt_eq,ahd,Nat.ble_eq_true_of_le,qC,aaz,Nat.le_of_ble_eq_true]
theorem aaC(L:Nat->Bool):∀(n:Nat),((List.range n).filter λi=>!(L i)).length=Eg L n
 |0=>rfl
 |n+1=>by
  rw[avi,List.filter_append,as4,aaC L n,Eg];cases h:L n
  .simp[h,Nat.add_comm]
  .simp[h]
theorem ahe(L:Nat->Bool){t0:Nat}(h:∀i,t0<=i->L i=false):∀(n:Nat),t0<=n->Eg L n=Eg L t0+(n-t0)
 |0,hn=>by
  grind
 |n+1,hn=>by
  rcases atm n t0 with h'|h'
  .have:t0=n+1:=by omega
   subst this;simp
  .rw[Eg,h n h',ahe L h n h'];simp only;omega
structure VA(Θ:gY)(Γ:je)(w0:World)(M:Nat->Prop)(T:Ext)(st:St)(R:Reg)(ops:Array Oper)(t0:Nat)(listed:Array Bool)(path:List dD)(γ:Nat->Value)(a:Act)(w:World):Prop where
 way:Way R ops t0 path
 size:listed.size=ops.size
 tail:∀i,t0<=i->listed.getD i false=false
 shut:∀i j,listed.getD i false=true->((masks ops.toList []).getD i 0).testBit j=true->listed.getD j false=true
 ok:∀j o x,ops[j]? =some o->path[j]? =some x->listed.getD j false=true->pO Θ Γ R (aP R.D st) path j o x
 rel:Rel w0 M T γ (after (aP R.D st) path λi=>listed.getD i false) a w
theorem ak8{G:iV}(hE:pK P G Θ Γ w0 M){ops:Array Oper}{Q:Exit->Act->World->Prop}(hQ:∀c a w,¬Q (.panic c) a w)(hO:¬LetsOut Q){R:Reg}{t0:Nat}{K:List dD->Prop}(ht0:t0<=ops.size)(hms:R.ms=masks ops.toList [])
 (hRn:R.n=st.n) (hDn:∀i o d,ops[i]? =some o->i<t0->o.dst=some d->d<st.n) (hgd:∀i o g b,ops[i]? =some o->i<t0->o.guard=some (g,b)->∃og d,ops[g]? =some og/\og.dst=some d) (hcmp:∀e∈R.E,ET R.ms R.E e=true) (hEi:∀j o',ops[j]? =some o'->j<t0->xJ Γ o'.op=true->j∈R.E)
 (hA:∀e q,Gg R.A e q=true->∃j,idxOf R.D (q / 64) 0=some j/\(R.ms.getD e 0).testBit j=true)
 (OZ:∀ext:List dD,ext.length<=t0->Ya Θ Γ R (aP R.D st) (ops.toList.take t0) ext->(ext.length=t0->K ext)/\∀o,(ops.toList.take t0)[ext.length]? =some o->Enabled Θ Γ R (aP R.D st) ext ext.length o)
 {S:Nat->Prop} (hfl:∀i o j f,ops[i]? =some o->ops[j]? =some f->j<i->t0<=i\/(S i/\S j)->((masks ops.toList []).getD i 0).testBit j=true\/(S j/\passes f o=true)) (hS:∀j,S j->j<t0)
 (hlt:∀i o,ops[i]? =some o->(masks ops.toList []).getD i 0<2 ^ i)
 (hend:∀path γ' a' w',K path->path.length=t0->Rel w0 M T γ' (after (aP R.D st) path λ_=>true) a' w'->wpList P ops Q (ops.toList.drop t0) a' w'):
 ∀(fuel:Nat)(listed:Array Bool)(path:List dD)(γ:Nat->Value)(a:Act)(w:World),VA Θ Γ w0 M T st R ops t0 listed path γ a w->
  Eg (λi=>listed.getD i false) ops.size<=fuel->wpAny P .any ops Q fuel listed a w:=by
 have acW:(ops.toList.take t0).length=t0:=by simp;omega
 have hget:∀j o,(ops.toList.take t0)[j]? =some o↔j<t0/\ops[j]? =some o:=λj o=>by
  grind
 have fin:∀(listed:Array Bool)(path:List dD)(γ:Nat->Value)(a:Act)(w:World),VA Θ Γ w0 M T st R ops t0 listed path γ a w->
  (∀i,i<t0->listed.getD i false=true)->wpList P ops Q (ops.toList.drop t0) a w:=by
  intro listed path γ a w I hdone;have hR:=I.rel;have hK:K path:=by refine(OZ path (by rw[I.way.len];omega) λi o x hi hx=>?_).1 I.way.len;obtain⟨h1,h2⟩:=(hget i o).1 hi;exact I.ok i o x h2 hx (hdone i h1)
  have hsame:after (aP R.D st) path (λi=>listed.getD i false)=after (aP R.D st) path λ_=>true:=by
   unfold after;have:∀(l:List dD)(j:Nat),j+l.length<=t0->pick l j (λi=>listed.getD i false)=pick l j λ_=>true:=by
    intro l
    induction l with
    |nil=>intros;rfl
    |cons y l ih=>
     grind [pick]
   rw[this path 0 (by rw[I.way.len];omega)]
  rw[hsame]at hR;exact hend path γ a w hK I.way.len hR
 have step:∀(listed:Array Bool)(path:List dD)(γ:Nat->Value)(a:Act)(w:World),VA Θ Γ w0 M T st R ops t0 listed path γ a w->∀(i:Nat)(o:Oper),ops[i]? =some o->i<t0->listed.getD i false=false->
  (∀j,((masks ops.toList []).getD i 0).testBit j=true->listed.getD j false=true)->∀(K':Act->World->Prop),
  (∀path' γ' a' w',VA Θ Γ w0 M T st R ops t0 (listed.setIfInBounds i true) path' γ' a' w'->K' a' w')->wpOp P ops Q i K' a w:=by
  intro listed path γ a w I i o ho hit hil hsub K' hK';obtain⟨W,hsz,htl,hcl,hok,hR⟩:=I;have hen:Enabled Θ Γ R (aP R.D st) path i o:=by
   obtain⟨ext,g1,g2,g3⟩:=fill hE.toEnvB (R:=R) (base:=aP R.D st) (front:=ops.toList.take t0) (path:=path) (L:=λi=>listed.getD i false)
    (λext hc o' ho'=>(OZ ext (by
      grind) hc).2 o' ho')
    (λj o' x ho' hx hL=>hok j o' x ((hget j o').1 ho').2 hx hL) (by rw[W.len,acW]) (λj k hL hk=>hcl j k hL (by grind)) i (by omega)
   have:=(OZ ext (by omega) g2).2 o ((hget _ o).2 ⟨by omega,by grind⟩);rw[g1]at this;refine this.agree λj hj=>?_
   grind [oH]
  have hset:∀j,(listed.setIfInBounds i true).getD j false=(if j=i then true else listed.getD j false):=by
   intro j;split
   .next e=>subst e;simp[Array.getD,show j<listed.size by omega]
   .next e=>exact getD_set_ne false (au0 e)
  refine al8 hE (L:=λi=>listed.getD i false) (L':=λj=>(listed.setIfInBounds i true).getD j false) W ht0 hit hRn hDn hgd hcmp hEi hA ho hen hok (λj k hL hk=>hcl j k hL (by grind)) (λj hj=>hsub j (by grind)) hil
   (by grind) (λj hj=>by grind) hR ?_
  intro x γ' a' w' ⟨y,hy,hxy⟩ hx hR';refine hK' (path.set i x) γ' a' w' ⟨W.set hy hxy,by simpa using hsz,?_,?_,?_,hR'⟩
  · grind
  .intro j k hj hk;rw[hset]at hj ⊢
   grind
  .intro j o' z ho' hz hL;obtain⟨asH,_⟩:=ath.1 hy;by_cases e:j=i
   · grind
   .rw[aui (au0 e)]at hz;rw[hset,if_neg e]at hL;refine(hok j o' z ho' hz hL).agree λk hk=>?_
    grind [List.getElem?_set_ne]
 have pend:∀(F:List (Nat×Oper))(listed:Array Bool)(path:List dD)(γ:Nat->Value)(a:Act)(w:World),VA Θ Γ w0 M T st R ops t0 listed path γ a w->
  (∀x∈F,ops[x.1]? =some x.2/\x.1<t0)->F.Pairwise (λx y=>x.1<y.1)->(∀i,i<t0->(listed.getD i false=true↔∀x∈F,x.1≠i))->
  Ho P ops Q (Q .normal) (F.map (·.2)++ops.toList.drop t0) a w:=by
  intro F
  induction F with
  |nil=>
   intro listed path γ a w I _ _ hL;rw[List.map_nil,at6,Xm]
   grind
  |cons x F ih=>
   intro listed path γ a w I hF hp hL;obtain⟨hx1,hx2⟩:=hF x as9;have hpx:=(atZ.1 hp).1;have hun:listed.getD x.1 false=false:=by
    grind
   refine(wpOp_step hx1).1 (step listed path γ a w I x.1 x.2 hx1 hx2 hun (λj hj=>?_) _ λpath' γ' a' w' I'=>?_)
   · grind [oH]
   .refine ih _ path' γ' a' w' I' (λy hy=>hF y (as8 _ hy)) (atZ.1 hp).2 λi hi=>?_;have hxs:x.1<listed.size:=by rw[I.size];exact(as2.1 hx1).1
    by_cases e:i=x.1
    .subst e;refine⟨λ_ y hy=>by have:=hpx y hy;omega,λ_=>by simp[Array.getD,hxs]⟩
    .rw[getD_set_ne false (au0 e),hL i hi];refine⟨λh y hy=>h y (as8 _ hy),λh y hy=>?_⟩;rcases atw.1 hy with rfl|hy
     .exactλe'=>e e'.symm
     .exact h y hy
 have late:∀(fuel:Nat)(listed:Array Bool)(path:List dD)(γ:Nat->Value)(a:Act)(w:World),VA Θ Γ w0 M T st R ops t0 listed path γ a w->Eg (λi=>listed.getD i false) ops.size<=fuel->
  (∀i,i<t0->¬S i->listed.getD i false=true)->wpAny P .any ops Q fuel listed a w:=by
  intro fuel listed path γ a w I hf hd;have hcount:=ahe (λi=>listed.getD i false) I.tail ops.size ht0;have hlen:=aaC (λi=>listed.getD i false) t0;have hmem:∀x,x∈((List.range t0).filter λi=>!(listed.getD i false)).map (λi=>(i,(ops[i]?).getD default))↔∃i,i<t0/\listed.getD i false=false/\(i,(ops[i]?).getD default)=x:=by intro x;simp only[atY,auf,auG,Bool.not_eq_true',and_assoc]
  have aou:∀i,i<t0->ops[i]? =some ((ops[i]?).getD default):=λi hi=>by
   have:ops[i]? =some (ops[i]'(by omega)):=by simp
   rw[this];rfl
  have ana:(((List.range t0).filter λi=>!(listed.getD i false)).map (λi=>(i,(ops[i]?).getD default))).Pairwise (λx y=>x.1<y.1):=by rw[au5];exact(List.pairwise_lt_range (n:=t0)).filter _
  refine al9 hQ hO hfl hS hlt fuel (((List.range t0).filter λi=>!(listed.getD i false)).map (λi=>(i,(ops[i]?).getD default))) (ops.toList.drop t0) t0 listed a w (as7 _) ht0 (λj=>by simp) I.size ?_ ana ?_ I.shut ?_ ?_
  .intro x hx;obtain⟨i,h1,h2,rfl⟩:=(hmem x).1 hx;refine⟨aou i h1,atC λhno=>?_⟩;have:=hd i h1 hno;rw[h2]at this;cases this
  .intro i hi;refine⟨λh=>⟨?_,λx hx e=>?_⟩,λ⟨h1,h2⟩=>?_⟩
   .rcases atm i t0 with h'|h'
    .exact h'
    .rw[I.tail i h']at h;cases h
   .obtain⟨j,_,h2,rfl⟩:=(hmem x).1 hx;subst e;rw[h2]at h;cases h
   .cases hb:listed.getD i false with
    |true=>rfl
    |false=>exact(h2 _ ((hmem _).2 ⟨i,h1,hb,rfl⟩) rfl).elim
  .rw[atb,hlen];omega
  .refine pend _ listed path γ a w I (λx hx=>?_) ana λi hi=>⟨λh x hx e=>?_,λh=>?_⟩
   .obtain⟨i,h1,_,rfl⟩:=(hmem x).1 hx;exact⟨aou i h1,h1⟩
   .obtain⟨j,_,h2,rfl⟩:=(hmem x).1 hx;subst e;rw[h2]at h;cases h
   .cases hb:listed.getD i false with
    |true=>rfl
    |false=>exact(h _ ((hmem _).2 ⟨i,hi,hb,rfl⟩) rfl).elim
 intro fuel
 induction fuel with
 |zero=>
  intro listed path γ a w I hf;have hall:∀i,i<ops.size->listed.getD i false=true:=ag4 (L:=λi=>listed.getD i false) ops.size (by omega);exact late 0 listed path γ a w I hf λi hi _=>hall i (by omega)
 |succ fuel ih=>
  intro listed path γ a w I hf;by_cases hdone:∀i,i<t0->¬S i->listed.getD i false=true
  .exact late (fuel+1) listed path γ a w I hf hdone
  .obtain⟨W,hsz,htl,hcl,hok,hR⟩:=id I;have hex:∃i,i<t0/\¬S i/\listed.getD i false=false:=by
    refine atC λhno=>hdone λi hi hn=>?_;cases hl:listed.getD i false with
    |true=>rfl
    |false=>exact(hno ⟨i,hi,hn,hl⟩).elim
   obtain⟨i1,hi1,hS1,hl1⟩:=hex;obtain⟨i0,hi0,hl0,hmin⟩:=least (p:=λi=>listed.getD i false=false) t0 ⟨i1,hi1,hl1⟩;have ak9:i0∈Region.ready .any ops listed:=by
    have hisz:i0<ops.size:=by omega
    refine Ae.2 ⟨ops[i0],by simp[hisz],by rw[KU (by omega)];exact hl0,λe he hb=>?_⟩;have hoi:ops.toList[i0]? =some ops[i0]:=by simp[hisz]
    have ajK:=aeS hoi he hb;have aos:e.on<i0:=by
     rcases atm e.on i0 with h|h
     .exact h
     .rw[oH (hlt i0 ops[i0] (by simp[hisz])) h]at ajK;cases ajK
    cases hl:listed.getD e.on false with
    |true=>rfl
    |false=>exact(hmin e.on aos hl).elim
   refine⟨λh=>(by rw[h]at ak9;cases ak9),λi hi=>?_⟩;obtain⟨o,ho,hn,hall⟩:=Ae.1 hi;obtain⟨hisz,_⟩:=as2.1 ho;have hil:listed.getD i false=false:=by rw[← KU (by omega)];exact hn
   have hsub:=TA hcl ho hi;have hit:i<t0:=by
    rcases atm i t0 with h|h
    .exact h
    .have ho1:ops[i1]? =some (ops[i1]'(by omega)):=by simp
     rcases hfl i o i1 _ ho ho1 (by omega) (.inl h)with hb|hb
     .have:=hsub i1 hb;rw[hl1]at this;cases this
     .exact(hS1 hb.1).elim
   refine step listed path γ a w I i o ho hit hil hsub _ λpath' γ' a' w' I'=>ih _ path' γ' a' w' I' ?_;have hset:∀j,(listed.setIfInBounds i true).getD j false=(if j=i then true else listed.getD j false):=by
    intro j;split
    .next e=>subst e;simp[Array.getD,show j<listed.size by omega]
    .next e=>exact getD_set_ne false (au0 e)
   have:=aiN (L:=λi=>listed.getD i false) (L':=λj=>(listed.setIfInBounds i true).getD j false) (i:=i) hil (by simp only[hset,if_true]) (λj hj=>by simp only[hset,if_neg hj]) ops.size hisz;omega
theorem Xo{ops:Array Oper}{t0:Nat}(h:Hq t0 ((masks ops.toList []).drop t0)=true){i:Nat}{o:Oper}(ho:ops[i]? =some o)(hi:t0<=i):(masks ops.toList []).getD i 0+1=2 ^ i:=by
 have hml:(masks ops.toList []).length=ops.size:=by rw[TG];simp
 have hg:((masks ops.toList []).drop t0)[i-t0]? =some ((masks ops.toList []).getD i 0):=by
  grind
 grind [Xn]
theorem akO{G:iV}(hE:pK P G Θ Γ w0 M)(hm:P.follows .mixedOrders=true){own:Nat->Bool}{U:List Nat}{id:Nat}{ops:Array Oper}{K:St->Prop}{Q:Exit->Act->World->Prop}(h:Rel w0 M T γ st a w)
 (hr:KN Θ Γ own U ops.toList K st) (hn:∀s γ' a' w',K s->Rel w0 M T γ' s a' w'->Q .normal a' w'):(Code.region id ops true).wp P Q a w:=by
 unfold KN at hr;split at hr
 case h_2=>exact hr.elim
 next hb=>
 rw[as1,as1,as1,as1]at hb;obtain⟨hnd,hlt,htl,hcmp,af4⟩:=hb;rw[as1]at af4;obtain⟨af4,arK⟩:=af4;have ht0:front ops.toList<=ops.size:=by grind [ama]
 have hfl:(ops.toList.take (front ops.toList)).length=front ops.toList:=by simp;omega
 have OZ:=λ(ext:List dD)(hle:ext.length<=front ops.toList)(hc:Ya Θ Γ (oI st.n own Γ U ops.toList) (aP (oI st.n own Γ U ops.toList).D st) (ops.toList.take (front ops.toList)) ext)=>
  Xf (ops.toList.take (front ops.toList)) [] [] ext rfl (by omega) hr (by simpa using hc)
 simp only[at6,as6,atS,hfl]at OZ;have hall:∃ext:List dD,ext.length=front ops.toList/\Ya Θ Γ (oI st.n own Γ U ops.toList) (aP (oI st.n own Γ U ops.toList).D st) (ops.toList.take (front ops.toList)) ext:=by
  obtain⟨ext,g1,g2,_⟩:=fill hE.toEnvB (R:=oI st.n own Γ U ops.toList) (base:=aP (oI st.n own Γ U ops.toList).D st) (front:=ops.toList.take (front ops.toList)) (path:=List.replicate (front ops.toList) (skipped 0)) (L:=λ_=>false)
   (λext hc o' ho'=>(OZ ext (by
     grind) hc).2 o' ho') (λ_ _ _ _ _ h=>by cases h) (by simp[hfl]) (λ_ _ h=>by cases h) (front ops.toList) (by omega)
  grind
 obtain⟨aov,hl0,hc0⟩:=hall;have aow:∀i,i<front ops.toList->∃o d,ops[i]? =some o/\(ops.toList.take (front ops.toList))[i]? =some o/\rq st.n i o=some d/\(oI st.n own Γ U ops.toList).ms.getD i 0<2 ^ i:=by
  intro i hi;have ho:ops[i]? =some (ops[i]'(by omega)):=by simp
  have ho2:(ops.toList.take (front ops.toList))[i]? =some (ops[i]'(by omega)):=by grind
  have hx:aov[i]? =some (aov[i]'(by omega)):=by simp
  obtain⟨h1,h2,_⟩:=hc0 i _ _ ho2 hx;exact⟨_,_,ho,ho2,h1,h2⟩
 have hdst:∀(i:Nat)(o:Oper),(ops.toList.take (front ops.toList))[i]? =some o->∃d,rq st.n (0+i) o=some d:=by
  grind
 have hbound:∀i o,ops[i]? =some o->front ops.toList<=i->(masks ops.toList []).getD i 0<2 ^ i:=by
  intro i o ho hi;unfold NI at htl;split at htl
  .next hb=>have:=Xo (show Hq _ ((masks ops.toList []).drop _)=true from hb) ho hi;omega
  .exact(Qv htl (by simpa using ho)).1 hi
 have apq:∃S:Nat->Prop,(∀i o j f,ops[i]? =some o->ops[j]? =some f->j<i->front ops.toList<=i\/(S i/\S j)->((masks ops.toList []).getD i 0).testBit j=true\/(S j/\passes f o=true))/\∀j,S j->j<front ops.toList:=by
  unfold NI at htl;split at htl
  .next hb=>
   refine⟨λ_=>False,λi o j f ho _ hj hi=>.inl ?_,λ_ h=>h.elim⟩;rcases hi with hi|hi
   .have h1:=Xo (show Hq _ ((masks ops.toList []).drop _)=true from hb) ho hi;have h2:(masks ops.toList []).getD i 0=2 ^ i-1:=by omega
    grind
   grind
  .refine⟨λj=>aO (ak7 (front ops.toList) (oI st.n own Γ U ops.toList).ms) j=true,λi o j f ho hf hj hi=>?_,λj hj=>?_⟩
   .exact(Qv htl (by simpa using ho)).2 (by simpa using hf) hj hi
   .have:=qC.1 hj;exact auG.1 (auf.1 this).1
 obtain⟨S,aqN,hS⟩:=apq
 let ajM:List dD:=(ops.toList.take (front ops.toList)).mapIdx λi o=>skipped ((rq st.n i o).getD 0)
 have hp0:∀(i:Nat)(x:dD),ajM[i]? =some x->∃o,(ops.toList.take (front ops.toList))[i]? =some o/\rq st.n (0+i) o=some x.d:=by
  grind [skipped]
 have W0:Way (oI st.n own Γ U ops.toList) ops (front ops.toList) ajM:=by
  refine⟨by grind,λi o x ho hx=>?_,λx hx=>?_,λi j x y hx hy hxy=>?_,λi x hx=>?_⟩
  .obtain⟨o',h1,h2⟩:=hp0 i x hx;obtain⟨hi,_⟩:=ath.1 h1;rw[List.getElem?_take_of_lt (by omega)]at h1;have:ops[i]? =some o':=by simpa using h1
   rw[ho]at this;cases this;rw[atS]at h2;exact h2
  .obtain⟨i,hi⟩:=auu hx;obtain⟨o',h1,h2⟩:=hp0 i x hi;exact qC.2 (aau _ 0 i h1 h2)
  .obtain⟨o1,h1,h2⟩:=hp0 i x hx;obtain⟨o2,h3,h4⟩:=hp0 j y hy;have g1:=IK hdst i o1 x.d h1 h2;have g2:=IK hdst j o2 y.d h3 h4;rw[← hxy]at g2;exact aaB hnd i j x.d g1 g2
  .obtain⟨o1,h1,h2⟩:=hp0 i x hx;have:=aeW _ 0 i x.d hnd (IK hdst i o1 x.d h1 h2)
   grind
 refine Code.wp_mono (Q:=λe a' w'=>match e with|.normal=>∃s γ',K s/\Rel w0 M T γ' s a' w'|_=>False) (λe a' w' he=>?_) ?_
 · grind
 refine wp_region_any hm ?_;refine ak8 (w0:=w0) (M:=M) (T:=T) hE (λ_ _ _ h=>h) (λ⟨_,_,h⟩=>h) (R:=oI st.n own Γ U ops.toList) (t0:=front ops.toList) ht0 rfl rfl ?_ (λi o g b ho _ hg=>by
  grind [afw]) (λe he=>atq.1 hcmp e he) ?_ (aif af4) OZ aqN hS ?_ ?_ ops.size _ ajM γ _ _
  ⟨W0,by simp,?_,?_,?_,?_⟩ ?_
 .intro i o d ho hi hd;exact ahc hlt (i:=i) (by grind) hd
 .intro j o' ho' hj he;have:=aax (Γ:=Γ) (ops.toList.take (front ops.toList)) 0 j o' (by grind) he;rw[atS]at this;exact this
 .intro i o ho;rcases atm i (front ops.toList)with hi|hi
  .obtain⟨_,_,_,_,_,h⟩:=aow i hi;exact h
  grind
 .intro path γ' a' w' hK _ hR;have asu:Rel w0 M T γ' (adk own (ops.toList.take (front ops.toList)) (after (aP (oI st.n own Γ U ops.toList).D st) path λ_=>true)) a' w':=by
   unfold adk;split
   .exact hR
   .exact hR.freeze _
  grind [Iz]
 .intro i _;simp[Array.getD]
 .intro i j hi;exfalso;simp[Array.getD]at hi
 .intro j o x _ _ hi;exfalso;simp[Array.getD]at hi
 .have:=(h.drew (w.drawn+1))|>λh=>al5 h (oI st.n own Γ U ops.toList).D;rw[ajF (λi=>by simp[Array.getD])];exact this
 .have:∀n,Eg (λi=>(Array.replicate ops.size false).getD i false) n<=n:=by
   intro n
   induction n with
   |zero=>exact as7 _
   |succ n ih=>grind [Eg]
  exact this _
end Go.Fw
