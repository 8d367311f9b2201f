import Derived.Test.YtjomchafleahdaaGreatFwB
namespace Go.Fw
open Go
variable {P:Program} {w0:World} {M:Nat->Prop} {T:Ext} {γ γ':Nat->Value} {st:St} {a:Act} {w w':World} {Θ:gU} {Γ:jf}
structure dA where
 d:Nat
 v:AV
 u:List (Nat×aB)
 δ:List (Nat×aB)
 k:List Nat
def zD(acc:List Nat):List Edge->Nat
 |[]=>0
 |e::r=>match Region.binds .any e with
  |true=>(2 ^ e.on|||acc.getD e.on 0)|||zD acc r
  |false=>zD acc r
def masks:List Oper->List Nat->List Nat
 |[],acc=>acc
 |o::r,acc=>masks r (acc++[zD acc o.after.toList])
def pick:List dA->Nat->(Nat->Bool)->List dA
 |[],_,_=>[]
 |x::r,j,m=>match m j with|true=>x::pick r (j+1) m|false=>pick r (j+1) m
def uG:List dA->Nat->AV->AV
 |[],_,b=>b
 |x::r,t,b=>match Nat.beq t x.d with|true=>x.v|false=>uG r t b
def lookO:List dA->Nat->Option aB->Option aB
 |[],_,b=>b
 |x::r,o,b=>match look x.δ o with|some y=>some y|none=>lookO r o b
def nP:List dA->Nat->Option aB
 |[],_=>none
 |x::r,o=>match nP r o with|some y=>some y|none=>look x.u o
def kS(base:St)(l:List dA):St:=
 {n:=base.n,tmps:=λt=>uG l t (base.tmps t),ah:=λo=>match nP l o with|some y=>some y|none=>lookO l o (base.ah o)}
def ni:List dA->List Nat
 |[]=>[]
 |x::r=>x.k++ni r
def pO(l:List Nat)(st:St):St:=match l with|[]=>st|l=>st.kill (aO l)
def after(base:St)(path:List dA)(m:Nat->Bool):St:=pO (ni (pick path 0 m)) (kS base (pick path 0 m))
def Cell.touch(S:Nat->Bool):Cell->Bool
 |.ref o=>S o
 |_=>false
def SV.touch(S:Nat->Bool):SV->Bool
 |.one c=>c.touch S
 |.agg cs=>cs.any (Cell.touch S)
def AV.touch(S:Nat->Bool):AV->Bool
 |.undef=>false
 |.sv v=>v.touch S
 |.kR vs=>vs.any (SV.touch S)
 |.dU o _=>S o
 |.lg o _ _=>S o
 |.win o _ _=>S o
 |.mV _ _ _ _=>false
 |.dS cs _=>cs.any (Cell.touch S)
 |.fn _ caps=>caps.any λcs=>cs.any (Cell.touch S)
def aB.touch(S:Nat->Bool):aB->Bool
 |.var cs=>cs.any (Cell.touch S)
 |.arr _ _ _ _=>false
def St.YR(st:St)(L:List Nat):St:=match L with
 |[]=>st
 |L=>{n:=st.n,tmps:=λt=>match (st.tmps t).touch (aO L)with|true=>.undef|false=>st.tmps t,
      ah:=λo=>match aO L o with|true=>none|false=>match st.ah o with|some x=>(match x.touch (aO L)with|true=>none|false=>some x)|none=>none}
def abH(ms:List Nat)(i:Nat):List (Nat×Nat)->List Nat
 |[]=>[]
 |(e,q)::r=>match Nat.beq e i||((ms.getD i 0).testBit e||(ms.getD e 0).testBit i)with|true=>abH ms i r|false=>q::abH ms i r
def Fe:List (Nat×Nat)->Nat->Nat->Bool
 |[],_,_=>false
 |(e,q)::r,i,o=>match Nat.beq e i&&Nat.beq q o with|true=>true|false=>Fe r i o
def Uf:Op->Bool
 |.call {callee:=.builtin .append,.. }=>true
 |_=>false
def vC:Op->Bool
 |.store _ _ _=>true
 |_=>false
def qI(n i:Nat)(o:Oper):Option Nat:=match o.dst with
 |some d=>some d
 |none=>match vC o.op with|true=>some (n+i)|false=>none
def dstsOf(n:Nat):Nat->List Oper->List Nat
 |_,[]=>[]
 |i,o::r=>match qI n i o with|some d=>d::dstsOf n (i+1) r|none=>dstsOf n (i+1) r
def nodup:List Nat->Bool
 |[]=>true
 |x::r=>!(aO r x)&&nodup r
def bI(D:List Nat)(st:St):St:=st.kill λo=>aO D (o / 64)
def AP(d:Nat)(δ:List (Nat×aB)):Bool:=δ.all λx=>Nat.beq (x.1 / 64) d
def St.hide(st:St)(U:List Nat):St:={st with ah:=λo=>match aO U o with|true=>none|false=>st.ah o}
def wU(Γ:jf)(o:Op):Bool:=match o with
 |.call {callee:=.value (.func f),.. }=>match Γ f with|some (.eff _ _)=>true|_=>false
 |.store _ _ _=>true
 |_=>false
def LW(Γ:jf):Nat->List Oper->List Nat
 |_,[]=>[]
 |i,o::r=>match wU Γ o.op with|true=>i::LW Γ (i+1) r|false=>LW Γ (i+1) r
def Ei(ms:List Nat)(E:List Nat)(i:Nat):Bool:=E.all λe=>Nat.beq e i||((ms.getD i 0).testBit e||(ms.getD e 0).testBit i)
def qJ(st:St)(m:Mode)(x:AV):Option (Arg×Option Nat):=
 match m with
 |.val=>match lW st [x]with
  |some [a]=>some (a,none)
  |_=>none
 |m=>oN st m x
def vF(st:St):List Mode->List AV->Option (List Arg×List (Option Nat))
 |_,[]=>some ([],[])
 |ms,x::xs=>match qJ st (ms.headD .val) x,vF st ms.tail xs with
  |some (a,o),some (as,os)=>some (a::as,o::os)
  |_,_=>none
def Arg.amE:Arg->Bool
 |.own _ _ _=>false
 |_=>true
def LX(Γ:jf)(st:St):Op->Option (Prop×KA×(List (Option Nat)×Bool))
 |.call {callee:=.value (.func f),args,.. }=>match Γ f with
  |some (.eff ms con)=>match vF st ms (handed st args.toList [])with
   |some (vs,os)=>match D7 (BF ms (handed st args.toList []))||vs.all Arg.amE with
    |true=>match con vs with
     |some (p,ρ)=>some (p,ρ,(os,!(D7 (BF ms (handed st args.toList [])))))
     |none=>none
    |false=>none
   |none=>none
  |_=>none
 |_=>none
def Iy(Θ:gU)(st:St):Op->Option (List (Nat×aB))
 |.store t p x=>match st.ev x,Θ t,st.ev p with
  |.sv v,some ti,.dU o off=>match Nat.beq v.cells.length ti.cells.len,st.ah o with
   |true,some (.var cs)=>match Nat.ble (off+v.cells.length) cs.length with
    |true=>some [(o,.var (splice cs off v.cells))]
    |false=>none
   |_,_=>none
  |_,_,_=>none
 |_=>none
def ah5(D U:List Nat)(υ:List (Nat×aB)):Bool:=υ.all λy=>aO U y.1&&!(aO D (y.1 / 64))
def Q9:List (Option Nat)->List Eff->Bool
 |[],_=>true
 |none::os,aJ=>Q9 os aJ.tail
 |some _::os,aJ=>match aJ.head? with|some (.var _)=>Q9 os aJ.tail|_=>false
def Ej(D U:List Nat)(d:Nat)(st:St)(os:List (Option Nat)×Bool)(out:Out)(aJ:List Eff):Option (AV×List (Nat×aB)×List (Nat×aB)):=
 match uZ os.1&&(FW aJ (out.take (d*64+1)).2&&(Q9 os.1 aJ&&(AP d (out.take (d*64+1)).2&&(!os.2||(out.made&&Il aJ))))),lK st os.1 aJ with
 |true,some υ=>match υ.all λy=>aO U y.1&&!(aO D (y.1 / 64))with
  |true=>some ((out.take (d*64+1)).1,υ,(out.take (d*64+1)).2)
  |false=>none
 |_,_=>none
structure Reg where
 D:List Nat
 U:List Nat
 ms:List Nat
 E:List Nat
 A:List (Nat×Nat)
 n:Nat
 F:List Nat
def lI(F:List Nat)(x:dA):dA:=match aO F x.d,x.v,x.u,x.δ with
 |true,.sv (.one (.ref q)),[],[(q',.arr e r l fr)]=>match Nat.beq q q' with
  |true=>⟨x.d,.sv (.one (.sl e r l fr)),[],[],x.k⟩
  |false=>x
 |_,_,_,_=>x
theorem mO(F:List Nat)(x:dA):(lI F x).d=x.d/\(lI F x).u=x.u/\(lI F x).k=x.k/\∀y∈(lI F x).δ,y∈x.δ:=by
 grind [lI]
def idxOf:List Nat->Nat->Nat->Option Nat
 |[],_,_=>none
 |x::r,t,j=>match Nat.beq t x with|true=>some j|false=>idxOf r t (j+1)
def Wx(R:Reg)(i t:Nat):Bool:=match idxOf R.D t 0 with
 |some j=>!(Nat.beq j i||((R.ms.getD i 0).testBit j||(R.ms.getD j 0).testBit i))
 |none=>false
def St.veil(st:St)(R:Reg)(i:Nat):St:={st with tmps:=λt=>match Wx R i t with|true=>.undef|false=>st.tmps t}
def viewAt(R:Reg)(base:St)(acc:List dA)(i:Nat):St:=
 ((match Ei R.ms R.E i with
 |true=>after base acc (R.ms.getD i 0).testBit
 |false=>(after base acc (R.ms.getD i 0).testBit).hide R.U).veil R i).YR (abH R.ms i R.A)
def HY(Θ:gU)(Γ:jf)(R:Reg)(base:St)(i:Nat)(o:Oper)(d:Nat)(acc:List dA)(K:List dA->Prop):Prop:=
 match wU Γ o.op with
 |true=>match vC o.op with
  |true=>match Iy Θ (viewAt R base acc i) o.op with
   |some υ=>match ah5 R.D R.U υ with
    |true=>K (acc++[⟨d,.kR [],υ,[],[]⟩])
    |false=>False
   |none=>False
  |false=>match LX Γ (viewAt R base acc i) o.op with
   |some (p,ρ,os)=>p/\∀t,ρ.R t->match Ej R.D R.U d (viewAt R base acc i) os (ρ.out t) (ρ.aJ t)with
    |some (v,υ,δ)=>K (acc++[⟨d,v,υ,δ,[]⟩])
    |none=>False
   |none=>False
 |false=>match Uf o.op with
  |true=>match BI Θ (viewAt R base acc i) o.op with
   |some (p,q,x)=>match aO R.D (q / 64)&&(!(Nat.beq (q / 64) d)&&Fe R.A i q)with
    |true=>p/\K (acc++[lI R.F ⟨d,.sv (.one (.ref (d*64+1))),[],[(d*64+1,x)],[q]⟩])
    |false=>False
   |none=>False
  |false=>match calm Θ Γ d (viewAt R base acc i) o.op with
   |some (p,v,δ)=>match AP d δ,quiet (viewAt R base acc i) o.op with
    |true,true=>K (acc++[lI R.F ⟨d,v,[],δ,[]⟩])
    |true,false=>p/\K (acc++[lI R.F ⟨d,v,[],δ,[]⟩])
    |false,_=>False
   |none=>False
def fix(g:Nat)(b:Bool)(acc:List dA):List dA:=
 match acc[g]? with
 |some x=>acc.set g {x with v:=.sv (.one (.bool b))}
 |none=>acc
def skipped(d:Nat):dA:=⟨d,.kR [],[],[],[]⟩
def qx(Θ:gU)(Γ:jf)(R:Reg)(base:St)(K:List dA->Prop):Nat->List Oper->List dA->Prop
 |_,[],acc=>K acc
 |i,o::r,acc=>match qI R.n i o,Nat.blt (R.ms.getD i 0) (2 ^ i)with
  |some d,true=>match o.guard with
   |none=>HY Θ Γ R base i o d acc (qx Θ Γ R base K (i+1) r)
   |some (g,b)=>match (R.ms.getD i 0).testBit g,acc[g]? with
    |true,some x=>match x.v with
     |.sv (.one (.bool c))=>cond c
      (match b with
        |true=>HY Θ Γ R base i o d (fix g true acc) (qx Θ Γ R base K (i+1) r)
        |false=>qx Θ Γ R base K (i+1) r (fix g true acc++[skipped d]))
      (match b with
        |false=>HY Θ Γ R base i o d (fix g false acc) (qx Θ Γ R base K (i+1) r)
        |true=>qx Θ Γ R base K (i+1) r (fix g false acc++[skipped d]))
     |.kR _=>qx Θ Γ R base K (i+1) r (acc++[skipped d])
     |_=>False
    |_,_=>False
  |_,_=>False
def Wanted(R:Reg)(path:List dA)(i:Nat)(o:Oper):Prop:=
 o.guard=none\/∃g b y,o.guard=some (g,b)/\(R.ms.getD i 0).testBit g=true/\path[g]? =some y/\y.v=.sv (.one (.bool b))
def Wy(R:Reg)(path:List dA)(i:Nat)(o:Oper):Prop:=
 ∃g b y,o.guard=some (g,b)/\(R.ms.getD i 0).testBit g=true/\path[g]? =some y/\((∃c,y.v=.sv (.one (.bool c))/\c≠b)\/∃vs,y.v=.kR vs)
def oP(Θ:gU)(Γ:jf)(R:Reg)(base:St)(path:List dA)(i:Nat)(o:Oper)(x:dA):Prop:=
 qI R.n i o=some x.d/\(R.ms.getD i 0)<2 ^ i/\
 ((Wanted R path i o/\
    ((wU Γ o.op=false/\Uf o.op=false/\∃p v δ,calm Θ Γ x.d (viewAt R base path i) o.op=some (p,v,δ)/\p/\AP x.d δ=true/\x=lI R.F ⟨x.d,v,[],δ,[]⟩)\/
     (wU Γ o.op=false/\Uf o.op=true/\∃p q y,BI Θ (viewAt R base path i) o.op=some (p,q,y)/\p/\(aO R.D (q / 64)=true/\q / 64≠x.d/\Fe R.A i q=true)/\
       x=lI R.F ⟨x.d,.sv (.one (.ref (x.d*64+1))),[],[(x.d*64+1,y)],[q]⟩)\/
     (wU Γ o.op=true/\vC o.op=true/\∃υ,Iy Θ (viewAt R base path i) o.op=some υ/\ah5 R.D R.U υ=true/\x=⟨x.d,.kR [],υ,[],[]⟩)\/
     ((wU Γ o.op=true/\vC o.op=false)/\x.k=[]/\∃p ρ os t,LX Γ (viewAt R base path i) o.op=some (p,ρ,os)/\p/\ρ.R t/\
        (∀t,ρ.R t->∃r,Ej R.D R.U x.d (viewAt R base path i) os (ρ.out t) (ρ.aJ t)=some r)/\
        Ej R.D R.U x.d (viewAt R base path i) os (ρ.out t) (ρ.aJ t)=some (x.v,x.u,x.δ))))\/
  (Wy R path i o/\x=skipped x.d))
def Enabled(Θ:gU)(Γ:jf)(R:Reg)(base:St)(path:List dA)(i:Nat)(o:Oper):Prop:=
 ∃d,qI R.n i o=some d/\(R.ms.getD i 0)<2 ^ i/\
 ((Wanted R path i o/\
    ((wU Γ o.op=false/\Uf o.op=false/\∃p v δ,calm Θ Γ d (viewAt R base path i) o.op=some (p,v,δ)/\p/\AP d δ=true)\/
     (wU Γ o.op=false/\Uf o.op=true/\∃p q y,BI Θ (viewAt R base path i) o.op=some (p,q,y)/\p/\(aO R.D (q / 64)=true/\q / 64≠d/\Fe R.A i q=true))\/
     (wU Γ o.op=true/\vC o.op=true/\∃υ,Iy Θ (viewAt R base path i) o.op=some υ/\ah5 R.D R.U υ=true)\/
     ((wU Γ o.op=true/\vC o.op=false)/\∃p ρ os,LX Γ (viewAt R base path i) o.op=some (p,ρ,os)/\p/\
        ∀t,ρ.R t->∃r,Ej R.D R.U d (viewAt R base path i) os (ρ.out t) (ρ.aJ t)=some r)))\/
  Wy R path i o)
theorem afz{g:Nat}{b:Bool}{acc:List dA}{x:dA}(h:acc[g]? =some x)(hv:x.v=.sv (.one (.bool b))):fix g b acc=acc:=by
 unfold fix;rw[h];obtain⟨hlt,hx⟩:=arf.1 h;refine ar8 λi=>?_;by_cases hi:i=g
 .cases x
  grind
 grind
theorem adt:∀(l:List dA)(j:Nat)(m:Nat->Bool),(∀i,j<=i->m i=false)->pick l j m=[]
 |[],_,_,_=>rfl
 |x::r,j,m,h=>by rw[pick,h j (ara _)];exact adt r (j+1) m λi hi=>h i (by omega)
theorem KH(r:List dA)(m:Nat->Bool):∀(l:List dA)(j:Nat),pick (l++r) j m=pick l j m++pick r (j+l.length) m
 |[],j=>by simp[pick]
 |x::l,j=>by rw[asl,pick,pick,KH r m l (j+1),arl,show j+1+l.length=j+(l.length+1) by omega];cases m j<;>rfl
theorem G6{m:Nat->Bool}:∀(l l':List dA)(j:Nat),(∀i,m (j+i)=true->l[i]? =l'[i]?)->pick l j m=pick l' j m
 |[],[],_,_=>rfl
 |[],y::r,j,h=>by
  cases hm:m j with
  |true=>have:=h 0 (by simpa using hm);simp at this
  |false=>
   rw[pick,pick,hm];exact G6 [] r (j+1) λi hi=>by have:=h (i+1) (by rw[show j+(i+1)=j+1+i by omega];exact hi);simpa using this
 |x::l,[],j,h=>by
  cases hm:m j with
  |true=>have:=h 0 (by simpa using hm);simp at this
  |false=>
   rw[pick,pick,hm];exact G6 l [] (j+1) λi hi=>by have:=h (i+1) (by rw[show j+(i+1)=j+1+i by omega];exact hi);simpa using this
 |x::l,y::r,j,h=>by
  have ih:=G6 l r (j+1) λi hi=>by have:=h (i+1) (by rw[show j+(i+1)=j+1+i by omega];exact hi);grind
  rw[pick,pick];cases hm:m j with
  |true=>have:=h 0 (by simpa using hm);grind
  |false=>exact ih
theorem lZ{m:Nat->Bool}{x:dA}:∀(l:List dA)(j:Nat),x∈pick l j m↔∃i,m (j+i)=true/\l[i]? =some x
 |[],j=>by simp[pick]
 |y::l,j=>by
  have ih:=lZ (m:=m) (x:=x) l (j+1);rw[pick];cases hm:m j with
  |true=>
   simp only[arD,ih];constructor
   .rintro(rfl|⟨i,h1,h2⟩)
    .exact⟨0,by simpa using hm,rfl⟩
    .exact⟨i+1,by grind,by simpa using h2⟩
   grind
  |false=>
   simp only[ih];constructor
   .rintro⟨i,h1,h2⟩;exact⟨i+1,by grind,by simpa using h2⟩
   grind
theorem nR{m i j:Nat}(h:m<2 ^ i)(hj:i<=j):m.testBit j=false:=
 Nat.testBit_lt_two_pow (ari h (Nat.pow_le_pow_right (by decide) hj))
theorem Iz{R:Reg}{base:St}{l l':List dA}{i:Nat}(h:∀j,(R.ms.getD i 0).testBit j=true->l[j]? =l'[j]?):viewAt R base l i=viewAt R base l' i:=by
 grind [viewAt,after,G6]
theorem oP.agree{R:Reg}{base:St}{l l':List dA}{i:Nat}{o:Oper}{x:dA}(h:∀j,(R.ms.getD i 0).testBit j=true->l[j]? =l'[j]?)(hr:oP Θ Γ R base l i o x):oP Θ Γ R base l' i o x:=by
 obtain⟨h1,h2,h3⟩:=hr;refine⟨h1,h2,?_⟩;rw[← Iz h];refine h3.imp (And.imp (Or.imp id ?_) id) (And.imp ?_ id)
 · grind
 .rintro⟨g,b,y,e1,e2,e3,e4⟩;exact⟨g,b,y,e1,e2,h g e2▸e3,e4⟩
theorem Enabled.agree{R:Reg}{base:St}{l l':List dA}{i:Nat}{o:Oper}(h:∀j,(R.ms.getD i 0).testBit j=true->l[j]? =l'[j]?)(hr:Enabled Θ Γ R base l i o):Enabled Θ Γ R base l' i o:=by
 obtain⟨d,h1,h2,h3⟩:=hr;refine⟨d,h1,h2,?_⟩;rw[← Iz h];refine h3.imp (And.imp (Or.imp id ?_) id) ?_
 · grind
 .rintro⟨g,b,y,e1,e2,e3,e4⟩;exact⟨g,b,y,e1,e2,h g e2▸e3,e4⟩
theorem pR{l:List Nat}{x:Nat}:aO l x=true↔x∈l:=by
 induction l with
 |nil=>simp[aO]
 |cons y l ih=>
  rw[aO,arD];cases hb:Nat.beq x y with
  |true=>simp_all
  |false=>
   simp only[ih];constructor
   .exact .inr
   .rintro(rfl|h)
    .simp at hb
    .exact h
theorem YS{n:Nat}{o:Oper}{d:Nat}:∀(l:List Oper)(i j:Nat),l[j]? =some o->qI n (i+j) o=some d->d∈dstsOf n i l
 |[],_,_,ho,_=>by simp at ho
 |x::r,i,0,ho,hd=>by
  grind [dstsOf]
 |x::r,i,j+1,ho,hd=>by
  have:=YS r (i+1) j (by simpa using ho) (by rw[show i+1+j=i+(j+1) by omega];exact hd);rw[dstsOf];split
  .exact ard _ this
  .exact this
def WA(Θ:gU)(Γ:jf)(R:Reg)(base:St)(ops:List Oper)(path:List dA):Prop:=
 ∀i o x,ops[i]? =some o->path[i]? =some x->oP Θ Γ R base path i o x
theorem ah6{acc ext:List dA}{j:Nat}(h:j<acc.length):(acc++ext)[j]? =acc[j]? :=asg h
theorem Vq{R:Reg}{base:St}{K:List dA->Prop}:∀(rest pre:List Oper)(acc ext:List dA),acc.length=pre.length->ext.length<=rest.length->
 qx Θ Γ R base K pre.length rest acc->WA Θ Γ R base (pre++rest) (acc++ext)->
 (ext.length=rest.length->K (acc++ext))/\∀o,rest[ext.length]? =some o->Enabled Θ Γ R base (acc++ext) (pre.length+ext.length) o
 |[],pre,acc,ext,hl,hle,hr,hc=>by
  simp_all [qx]
 |o::rest,pre,acc,ext,hl,hle,hr,hc=>by
  rw[qx]at hr;split at hr
  case h_2=>exact hr.elim
  next d hd hm=>
  have hm':R.ms.getD pre.length 0<2 ^ pre.length:=by simp_all
  have key:(Wanted R acc pre.length o/\HY Θ Γ R base pre.length o d acc (qx Θ Γ R base K (pre.length+1) rest))\/
   (Wy R acc pre.length o/\qx Θ Γ R base K (pre.length+1) rest (acc++[skipped d])):=by
   split at hr
   .next hg=>exact .inl ⟨.inl hg,hr⟩
   .next g b hg=>
    split at hr
    .next x hbit hx=>
     split at hr
     .next c hc'=>
      cases c
      .simp only[asJ,afz hx hc']at hr;cases b
       .exact .inl ⟨.inr ⟨g,false,x,hg,hbit,hx,hc'⟩,hr⟩
       .exact .inr ⟨⟨g,true,x,hg,hbit,hx,.inl ⟨false,hc',by simp⟩⟩,hr⟩
      .simp only[atl,afz hx hc']at hr;cases b
       .exact .inr ⟨⟨g,false,x,hg,hbit,hx,.inl ⟨true,hc',by simp⟩⟩,hr⟩
       .exact .inl ⟨.inr ⟨g,true,x,hg,hbit,hx,hc'⟩,hr⟩
     .next vs hc'=>exact .inr ⟨⟨g,b,x,hg,hbit,hx,.inr ⟨vs,hc'⟩⟩,hr⟩
     grind
    grind
  have aju:∀ext:List dA,∀j,(R.ms.getD pre.length 0).testBit j=true->acc[j]? =(acc++ext)[j]? :=by
   grind [nR]
  cases ext with
  |nil=>
   refine⟨λh=>by simp at h,λo' ho'=>?_⟩;have:o'=o:=by grind
   subst this;rw[arU];simp only[arI,asI];refine⟨d,hd,hm',?_⟩;rcases key with⟨hw,hs⟩|⟨hw,_⟩
   .refine .inl ⟨hw,?_⟩;unfold HY at hs;split at hs
    · grind
    grind [Nat.beq_refl,NH]
   grind
  |cons x ext=>
   have hx:oP Θ Γ R base (acc++x::ext) pre.length o x:=by
    refine hc pre.length o x ?_ ?_
    · grind
    grind
   obtain⟨e1,_,e3⟩:=hx;have hxd:x.d=d:=by grind
   have anH:viewAt R base acc pre.length=viewAt R base (acc++x::ext) pre.length:=Iz (aju _);have hnext:qx Θ Γ R base K (pre.length+1) rest (acc++[x]):=by
    rcases key with⟨hw,hs⟩|⟨hw,hs⟩
    .rcases e3 with⟨_,e3⟩|⟨⟨g,b,y,f1,f2,f3,f4⟩,_⟩
     .rw[← anH,hxd]at e3;unfold HY at hs;rcases e3 with⟨he,ha,p,v,δ,hcalm,_,hn,hxx⟩|⟨he,ha,p,q,y,happ,_,_,hxx⟩|⟨he,hst,υ,hυ,hin,hxx⟩|⟨⟨he,hst⟩,hk,p,ρ,os,t,hrel,_,ht,_,hres⟩
      .rw[he,ha]at hs;simp only[hcalm]at hs;split at hs
       · grind
       · grind
       grind
      · grind
      · grind
      .rw[he,hst]at hs;simp only[hrel]at hs;have h2:=hs.2 t ht;simp only[hres]at h2;have ex:x=⟨d,x.v,x.u,x.δ,[]⟩:=by cases x;grind
       grind
     .exfalso;rw[← aju _ g f2]at f3;rcases hw with hw|⟨g',b',y',k1,k2,k3,k4⟩
      · grind
      grind
    .rcases e3 with⟨hw',_⟩|⟨_,f1⟩
     .exfalso;obtain⟨g,b,y,k1,k2,k3,k4⟩:=hw;rcases hw' with hw'|⟨g',b',y',l1,l2,l3,l4⟩
      · grind
      grind
     grind
   have ih:=Vq rest (pre++[o]) (acc++[x]) ext (by simp[hl]) (by simpa using hle) (by simpa using hnext) (by simpa using hc);simp only[ar9,List.singleton_append,arL,arl,arI]at ih;refine⟨λh=>ih.1 (by simpa using h),λo' ho'=>?_⟩;have:=ih.2 o' (by simpa using ho');rw[show pre.length+(0+1)+ext.length=pre.length+(ext.length+1) by omega]at this;omega
theorem CW(acc:List Nat)(j:Nat):∀(es:List Edge),(zD acc es).testBit j=true↔∃e∈es,Region.binds .any e=true/\(e.on=j\/(acc.getD e.on 0).testBit j=true)
 |[]=>by simp[zD]
 |e::r=>by
  rw[zD];cases hb:Region.binds .any e with
  |false=>
   simp only[CW acc j r,arD];constructor
   .rintro⟨e',h1,h2⟩;exact⟨e',.inr h1,h2⟩
   .rintro⟨e',rfl|h1,h2⟩
    .rw[hb]at h2;cases h2.1
    .exact⟨e',h1,h2⟩
  |true=>
   simp only[Nat.testBit_or,asG,CW acc j r,arD,Nat.testBit_two_pow,arx];constructor
   .rintro((h|h)|⟨e',h1,h2⟩)
    .exact⟨e,.inl rfl,hb,.inl h⟩
    .exact⟨e,.inl rfl,hb,.inr h⟩
    .exact⟨e',.inr h1,h2⟩
   .rintro⟨e',rfl|h1,h2⟩
    .exact .inl h2.2
    .exact .inr ⟨e',h1,h2⟩
theorem NQ:∀(l:List Oper)(acc:List Nat)(i:Nat),i<acc.length->(masks l acc).getD i 0=acc.getD i 0
 |[],_,_,_=>rfl
 |o::r,acc,i,h=>by rw[masks,NQ r _ i (by simp;omega)];simp[arp,asg h]
theorem NR:∀(l:List Oper)(acc:List Nat)(i:Nat)(o:Oper),l[i]? =some o->∃acc',(masks l acc).getD (acc.length+i) 0=zD acc' o.after.toList/\
 (∀j,j<acc'.length->(masks l acc).getD j 0=acc'.getD j 0)
 |[],_,_,_,h=>by simp at h
 |o::r,acc,0,o',h=>by
  refine⟨acc,?_,λj hj=>?_⟩
  · grind [masks,NQ]
  grind [NQ]
 |o::r,acc,i+1,o',h=>by
  obtain⟨acc',h1,h2⟩:=NR r (acc++[zD acc o.after.toList]) i o' (by simpa using h)
  grind [masks]
theorem adu{ops:List Oper}{i:Nat}{o:Oper}(ho:ops[i]? =some o){e:Edge}(he:e∈o.after)(hb:Region.binds .any e=true):((masks ops []).getD i 0).testBit e.on=true:=by
 obtain⟨acc',h1,_⟩:=NR ops [] i o ho
 grind [CW]
theorem ajv{ops:List Oper}{i:Nat}{o:Oper}(ho:ops[i]? =some o){j:Nat}(hj:((masks ops []).getD i 0).testBit j=true):
 ∃e∈o.after,Region.binds .any e=true/\(e.on=j\/((masks ops []).getD e.on 0).testBit j=true):=by
 obtain⟨acc',h1,h2⟩:=NR ops [] i o ho
 grind [CW]
def Dw(L:Nat->Bool):Nat->Nat
 |0=>0
 |n+1=>(match L n with|true=>0|false=>1)+Dw L n
theorem adv{L L':Nat->Bool}:∀(n:Nat),(∀i,i<n->L i=L' i)->Dw L n=Dw L' n
 |0,_=>rfl
 |n+1,h=>by rw[Dw,Dw,h n (by omega),adv n λi hi=>h i (by omega)]
theorem ahj{L L':Nat->Bool}{i:Nat}(hi:L i=false)(hi':L' i=true)(h:∀j,j≠i->L' j=L j):∀(n:Nat),i<n->Dw L' n+1=Dw L n
 |0,hn=>by omega
 |n+1,hn=>by
  rw[Dw,Dw];by_cases e:n=i
  · grind [adv]
  .have:=ahj hi hi' h n (by omega)
   grind
theorem afA{L:Nat->Bool}:∀(n:Nat),Dw L n=0->∀i,i<n->L i=true
 |0,_,i,hi=>by omega
 |n+1,h,i,hi=>by
  rw[Dw]at h;cases hl:L n with
  |false=>grind
  |true=>
   by_cases e:i=n
   · grind
   .exact afA n (by omega) i (by omega)
theorem least{p:Nat->Prop}[DecidablePred p]:∀(n:Nat),(∃i,i<n/\p i)->∃i,i<n/\p i/\∀j,j<i->¬p j:=by
 intro n
 induction n using Nat.strongRecOn with
 |_ n ih=>
  rintro⟨i,hi,hp⟩;by_cases h:∃j,j<i/\p j
  · grind
  grind
structure Fits(D U:List Nat)(l:List dA):Prop where
 one:∀x∈l,∀y∈l,x.d=y.d->x=y
 mem:∀x∈l,aO D x.d=true
 new:∀x∈l,AP x.d x.δ=true
 upd:∀x∈l,∀o y,look x.u o=some y->aO U o=true/\aO D (o / 64)=false
theorem pU{d:Nat}{δ:List (Nat×aB)}(h:AP d δ=true){o:Nat}{y:aB}(hl:look δ o=some y):o / 64=d:=
 aq3 (arv.1 h _ (tY δ o y hl))
theorem YT{t:Nat}{b:AV}:∀(l:List dA),(∀x∈l,x.d≠t)->uG l t b=b
 |[],_=>rfl
 |x::r,h=>by
  rw[uG];have:Nat.beq t x.d=false:=by
   cases hb:Nat.beq t x.d with
   |false=>rfl
   |true=>exact(h x arj (aq3 hb).symm).elim
  rw[this];exact YT r λy hy=>h y (ard _ hy)
theorem Rf{b:AV}{x:dA}:∀(l:List dA),x∈l->(∀y∈l,x.d=y.d->x=y)->uG l x.d b=x.v
 |[],h,_=>by cases h
 |y::r,h,hu=>by
  rw[uG];cases hb:Nat.beq x.d y.d with
  |true=>simp_all
  |false=>
   rcases arD.1 h with rfl|h
   .simp at hb
   .exact Rf r h λz hz=>hu z (ard _ hz)
theorem G7{o:Nat}{b:Option aB}:∀(l:List dA),(∀x∈l,look x.δ o=none)->lookO l o b=b
 |[],_=>rfl
 |x::r,h=>by rw[lookO,h x arj];exact G7 r λy hy=>h y (ard _ hy)
theorem adw{o:Nat}{b:Option aB}{x:dA}{z:aB}:∀(l:List dA),x∈l->look x.δ o=some z->(∀y∈l,∀z',look y.δ o=some z'->x=y)->lookO l o b=some z
 |[],h,_,_=>by cases h
 |y::r,h,hz,hu=>by
  rw[lookO];cases hy:look y.δ o with
  |some z'=>have:=hu y arj z' hy;subst this;rw[hz]at hy;exact hy.symm
  |none=>
   rcases arD.1 h with rfl|h
   .rw[hz]at hy;cases hy
   .exact adw r h hz λw hw=>hu w (ard _ hw)
theorem Em{o:Nat}:∀(l:List dA),(∀x∈l,look x.u o=none)->nP l o=none
 |[],_=>rfl
 |x::r,h=>by rw[nP,Em r λy hy=>h y (ard _ hy)];exact h x arj
theorem IA{o:Nat}(r:List dA):∀(l:List dA),nP (l++r) o=match nP r o with|some y=>some y|none=>nP l o
 |[]=>by grind [nP]
 |x::l=>by rw[asl,nP,IA r l,nP];cases nP r o<;>rfl
theorem Vr{o:Nat}{m m':Nat->Bool}:∀(l:List dA)(j:Nat),(∀i x,l[i]? =some x->x.u≠[]->m (j+i)=m' (j+i))->nP (pick l j m) o=nP (pick l j m') o
 |[],_,_=>rfl
 |x::r,j,h=>by
  have ih:=Vr (o:=o) (m:=m) (m':=m') r (j+1) (λi y hi hy=>by
   have:=h (i+1) y (by simpa using hi) hy
   grind)
  have h0:=h 0 x rfl;rw[pick,pick];cases hm:m j<;>cases hm':m' j
  .exact ih
  · grind [nP,look]
  · grind [nP,look]
  grind [nP]
theorem Vs{x:dA}{t:Nat}{b:AV}(r:List dA):∀(l:List dA),(∀y∈l,y.d≠x.d)->uG (l++x::r) t b=match Nat.beq t x.d with|true=>x.v|false=>uG (l++r) t b
 |[],_=>by grind [uG]
 |y::l,h=>by
  rw[asl,asl,uG,Vs r l λz hz=>h z (ard _ hz),uG];cases hb:Nat.beq t y.d with
  |false=>rfl
  |true=>
   have:Nat.beq t x.d=false:=by
    cases hb2:Nat.beq t x.d with
    |false=>rfl
    |true=>exact(h y arj ((aq3 hb).symm.trans (aq3 hb2))).elim
   rw[this]
theorem Vt{x:dA}{o:Nat}{b:Option aB}(r:List dA):∀(l:List dA),(∀y∈l,∀z z',look y.δ o=some z->look x.δ o=some z'->False)->
 lookO (l++x::r) o b=match look x.δ o with|some y=>some y|none=>lookO (l++r) o b
 |[],_=>by grind [lookO]
 |y::l,h=>by
  rw[asl,asl,lookO,Vt r l λz hz=>h z (ard _ hz),lookO];cases hy:look y.δ o with
  |none=>rfl
  |some z=>
   cases hx:look x.δ o with
   |none=>rfl
   |some z'=>exact(h y arj z z' hy hx).elim
theorem agN{base:St}{D U:List Nat}{l r:List dA}{x:dA}(hf:Fits D U (l++x::r))(hne:∀y∈l++r,y.d≠x.d)(hu:x.u≠[]->∀y∈r,y.u=[]):
 (((kS base (l++r)).adds x.u).adds x.δ).set x.d x.v=kS base (l++x::r):=by
 have hx:x∈l++x::r:=by simp
 have hsub:∀y∈l++r,y∈l++x::r:=λy hy=>by
  grind
 have e1:(((kS base (l++r)).adds x.u).adds x.δ).set x.d x.v={n:=base.n,tmps:=λt=>match Nat.beq t x.d with|true=>x.v|false=>uG (l++r) t (base.tmps t),ah:=(((kS base (l++r)).adds x.u).adds x.δ).ah}:=by rw[TW,TW (kS base (l++r)) x.u];rfl
 rw[e1];congr 1
 · grind [Vs]
 · funext o
   rw[qh,qh];have hO:=Vt (x:=x) (o:=o) (b:=base.ah o) r l λy hy z z' hz hz'=>hne y (arS _ hy) ((pU (hf.new y (hsub y (arS _ hy))) hz).symm.trans (pU (hf.new x hx) hz'));have hU:nP (l++x::r) o=match look x.u o with|some y=>some y|none=>nP (l++r) o:=by
    rw[IA,IA,nP];by_cases hxu:x.u=[]
    · grind [look]
    .rw[Em r λy hy=>by rw[hu hxu y hy];rfl]
   rw[hO,hU];cases hδ:look x.δ o with
   |none=>cases look x.u o<;>rfl
   |some z=>
    have hod:aO D (o / 64)=true:=by rw[pU (hf.new x hx) hδ];exact hf.mem x hx
    have nou:∀y∈l++x::r,look y.u o=none:=λy hy=>by
     cases hl:look y.u o with
     |none=>rfl
     |some w=>have:=(hf.upd y hy o w hl).2;grind
    grind [Em]
theorem pV{o:Nat}:∀(l:List dA),aO (ni l) o=true↔∃x∈l,o∈x.k
 |[]=>by simp[ni,aO]
 |x::r=>by
  rw[pR,ni,arH,← pR (l:=ni r),pV r];constructor
  .rintro(h|⟨y,hy,h⟩)
   .exact⟨x,arj,h⟩
   .exact⟨y,ard _ hy,h⟩
  .rintro⟨y,hy,h⟩;rcases arD.1 hy with rfl|hy
   .exact .inl h
   .exact .inr ⟨y,hy,h⟩
theorem Cell.vG{S:Nat->Bool}(h:∀o,S o=false):∀(c:Cell),c.kill S=c
 |.int _ _|.bool _|.str _|.nil|.sl _ _ _ _|.junk=>rfl
 |.ref o=>by grind [Cell.kill]
theorem Cell.oq{S S' S2:Nat->Bool}(h:∀o,S2 o=(S o||S' o)):∀(c:Cell),(c.kill S).kill S'=c.kill S2
 |.int _ _|.bool _|.str _|.nil|.sl _ _ _ _|.junk=>rfl
 |.ref o=>by
  grind [Cell.kill]
theorem yZ{S S' S2:Nat->Bool}(h:∀o,S2 o=(S o||S' o))(cs:List Cell):(cs.map (Cell.kill S)).map (Cell.kill S')=cs.map (Cell.kill S2):=by
 rw[asv]
 grind [List.map_congr_left,Cell.oq]
theorem SV.oq{S S' S2:Nat->Bool}(h:∀o,S2 o=(S o||S' o)):∀(c:SV),(c.kill S).kill S'=c.kill S2
 |.one c=>by grind [SV.kill,Cell.oq]
 |.agg cs=>by simp only[SV.kill,yZ h]
theorem AV.oq{S S' S2:Nat->Bool}(h:∀o,S2 o=(S o||S' o)):∀(c:AV),(c.kill S).kill S'=c.kill S2
 |.undef=>rfl
 |.sv v=>by grind [AV.kill,SV.oq]
 |.kR vs=>by
  simp only[AV.kill];rw[asv,List.map_congr_left λc _=>(show((SV.kill S') ∘ (SV.kill S)) c=SV.kill S2 c from SV.oq h c)]
 |.dU o off=>by
  grind [AV.kill]
 |.lg o i off=>by
  grind [AV.kill]
 |.win o i off=>by
  grind [AV.kill]
 |.mV _ _ _ _=>rfl
 |.dS cs off=>by simp only[AV.kill,yZ h]
 |.fn g caps=>by simp only[AV.kill];rw[asv,List.map_congr_left λc _=>(show((List.map (Cell.kill S')) ∘ (List.map (Cell.kill S))) c=List.map (Cell.kill S2) c from yZ h c)]
theorem aB.oq{S S' S2:Nat->Bool}(h:∀o,S2 o=(S o||S' o)):∀(c:aB),(c.kill S).kill S'=c.kill S2
 |.var cs=>by simp only[aB.kill,yZ h]
 |.arr _ _ _ _=>rfl
theorem St.oq{S S' S2:Nat->Bool}(h:∀o,S2 o=(S o||S' o))(st:St):(st.kill S).kill S'=st.kill S2:=by
 simp only[St.kill,St.mk.injEq,as4];refine⟨funext λt=>AV.oq h _,funext λo=>?_⟩;simp only[h o];cases S' o with
 |true=>cases S o<;>rfl
 |false=>
  cases S o with
  |true=>rfl
  |false=>
   cases st.ah o with
   |none=>rfl
   |some y=>grind [aB.oq]
theorem CX{S:Nat->Bool}(h:∀o,S o=false)(cs:List Cell):cs.map (Cell.kill S)=cs:=by rw[show Cell.kill S=id from funext (Cell.vG h),asO]
theorem SV.vG{S:Nat->Bool}(h:∀o,S o=false):∀(c:SV),c.kill S=c
 |.one c=>by grind [SV.kill,Cell.vG]
 |.agg cs=>by grind [SV.kill,CX]
theorem AV.vG{S:Nat->Bool}(h:∀o,S o=false):∀(c:AV),c.kill S=c
 |.undef=>rfl
 |.sv v=>by grind [AV.kill,SV.vG]
 |.kR vs=>by simp only[AV.kill];rw[show SV.kill S=id from funext (SV.vG h),asO]
 |.dU o off=>by grind [AV.kill]
 |.lg o i off=>by grind [AV.kill]
 |.win o i off=>by grind [AV.kill]
 |.mV _ _ _ _=>rfl
 |.dS cs off=>by grind [AV.kill,CX]
 |.fn g caps=>by simp only[AV.kill];rw[show List.map (Cell.kill S)=id from funext (CX h),asO]
theorem aB.vG{S:Nat->Bool}(h:∀o,S o=false):∀(c:aB),c.kill S=c
 |.var cs=>by grind [aB.kill,CX]
 |.arr _ _ _ _=>rfl
theorem St.vG{S:Nat->Bool}(h:∀o,S o=false)(st:St):st.kill S=st:=by
 cases st with
 |mk n t o=>
  simp only[St.kill,St.mk.injEq,as4];refine⟨funext λq=>AV.vG h _,funext λq=>?_⟩;simp only[h q];cases o q with
  |none=>rfl
  |some y=>grind [aB.vG]
theorem l7(l:List Nat)(st:St):pO l st=st.kill (aO l):=by
 cases l with
 |nil=>exact(St.vG (λ_=>rfl) st).symm
 |cons=>rfl
theorem Rel.pO(h:Rel w0 M T γ st a w)(l:List Nat):Rel w0 M T γ (pO l st) a w:=by rw[l7];exact h.kill _
theorem Cell.qK{X:V}{S:Nat->Bool}(h:∀o,S o=true->X.ah o=none):∀(c:Cell)(v:Value),aN X c v->c.kill S=c
 |.int _ _,_,_|.bool _,_,_|.str _,_,_|.nil,_,_|.sl _ _ _ _,_,_|.junk,_,_=>rfl
 |.ref o,v,⟨⟨e,r,l,fr,ho⟩,_⟩=>by
  grind [Cell.kill]
theorem vH{X:V}{S:Nat->Bool}(h:∀o,S o=true->X.ah o=none):∀(cs:List Cell)(vs:List Value),ai X cs vs->cs.map (Cell.kill S)=cs
 |[],[],_=>rfl
 |c::cs,v::vs,H=>by rw[arB,Cell.qK h c v H.1,vH h cs vs H.2]
 |[],_::_,H|_::_,[],H=>by cases H
theorem SV.qK{X:V}{S:Nat->Bool}(h:∀o,S o=true->X.ah o=none):∀(c:SV)(v:Value),cO X c v->c.kill S=c
 |.one c,v,H=>by rw[SV.kill,Cell.qK h c v H]
 |.agg cs,v,⟨vs,_,H⟩=>by grind [SV.kill,vH]
theorem Rh{X:V}{S:Nat->Bool}(h:∀o,S o=true->X.ah o=none):∀(cs:List SV)(vs:List Value),dh X cs vs->cs.map (SV.kill S)=cs
 |[],[],_=>rfl
 |c::cs,v::vs,H=>by rw[arB,SV.qK h c v H.1,Rh h cs vs H.2]
 |[],_::_,H|_::_,[],H=>by cases H
theorem Ph{X:V}{S:Nat->Bool}(h:∀o,S o=true->X.ah o=none):∀(l:List (List Cell))(us:List Value),dQ X l us->l.map (List.map (Cell.kill S))=l
 |[],[],_=>rfl
 |cs::l,u::us,⟨⟨b,_,arr,t,fz,_,_,H⟩,H2⟩=>by rw[arB,vH h cs _ H,Ph h l us H2]
 |[],_::_,H|_::_,[],H=>by cases H
theorem AV.qK{X:V}{S:Nat->Bool}(h:∀o,S o=true->X.ah o=none):∀(c:AV)(v:Value),aP X c v->c.kill S=c
 |.undef,_,_=>rfl
 |.sv x,v,H=>by rw[AV.kill,SV.qK h x v H]
 |.kR xs,v,⟨vs,_,H⟩=>by grind [AV.kill,Rh]
 |.dU o off,v,⟨b,cs,ho,_⟩=>by
  grind [AV.kill]
 |.lg o i off,v,⟨b,n,cap,e,r,l,fr,ho,_⟩=>by
  grind [AV.kill]
 |.win o i off,v,⟨b,n,cap,e,r,l,fr,ho,_⟩=>by
  grind [AV.kill]
 |.mV _ _ _ _,_,_=>rfl
 |.dS cs off,v,⟨b,_,arr,t,fz,_,_,H⟩=>by grind [AV.kill,vH]
 |.fn f caps,v,⟨us,_,H⟩=>by grind [AV.kill,Ph]
theorem aB.qK{X:V}{S:Nat->Bool}(h:∀o,S o=true->X.ah o=none){o:Nat}:∀(x:aB),bC X o x->x.kill S=x
 |.var cs,⟨b,ar,t,_,_,H⟩=>by grind [aB.kill,vH]
 |.arr _ _ _ _,_=>rfl
theorem Cell.pW{S S' H:Nat->Bool}(h1:∀o,S o=true->S' o=true)(h2:∀o,S' o=true->S o=true\/H o=true):∀(c:Cell),(c.kill S).touch H=false->c.kill S'=c.kill S
 |.int _ _,_|.bool _,_|.str _,_|.nil,_|.sl _ _ _ _,_|.junk,_=>rfl
 |.ref o,ht=>by
  simp only[Cell.kill]at ht ⊢;cases hs:S o with
  |true=>rw[h1 o hs]
  |false=>
   rw[hs]at ht;have ht:H o=false:=ht
   grind
theorem qL{S S' H:Nat->Bool}(h1:∀o,S o=true->S' o=true)(h2:∀o,S' o=true->S o=true\/H o=true):∀(cs:List Cell),(cs.map (Cell.kill S)).any (Cell.touch H)=false->cs.map (Cell.kill S')=cs.map (Cell.kill S)
 |[],_=>rfl
 |c::cs,ht=>by rw[arB,List.any_cons,asB]at ht;rw[arB,arB,Cell.pW h1 h2 c ht.1,qL h1 h2 cs ht.2]
theorem SV.pW{S S' H:Nat->Bool}(h1:∀o,S o=true->S' o=true)(h2:∀o,S' o=true->S o=true\/H o=true):∀(c:SV),(c.kill S).touch H=false->c.kill S'=c.kill S
 |.one c,ht=>by simp only[SV.kill];rw[Cell.pW h1 h2 c ht]
 |.agg cs,ht=>by simp only[SV.kill];rw[qL h1 h2 cs ht]
theorem LY{S S' H:Nat->Bool}(h1:∀o,S o=true->S' o=true)(h2:∀o,S' o=true->S o=true\/H o=true):∀(cs:List SV),(cs.map (SV.kill S)).any (SV.touch H)=false->cs.map (SV.kill S')=cs.map (SV.kill S)
 |[],_=>rfl
 |c::cs,ht=>by rw[arB,List.any_cons,asB]at ht;rw[arB,arB,SV.pW h1 h2 c ht.1,LY h1 h2 cs ht.2]
theorem JJ{S S' H:Nat->Bool}(h1:∀o,S o=true->S' o=true)(h2:∀o,S' o=true->S o=true\/H o=true):∀(l:List (List Cell)),((l.map (List.map (Cell.kill S))).any λcs=>cs.any (Cell.touch H))=false->l.map (List.map (Cell.kill S'))=l.map (List.map (Cell.kill S))
 |[],_=>rfl
 |c::cs,ht=>by rw[arB,List.any_cons,asB]at ht;rw[arB,arB,qL h1 h2 c ht.1,JJ h1 h2 cs ht.2]
theorem AV.pW{S S' H:Nat->Bool}(h1:∀o,S o=true->S' o=true)(h2:∀o,S' o=true->S o=true\/H o=true):∀(c:AV),(c.kill S).touch H=false->c.kill S'=c.kill S
 |.undef,_=>rfl
 |.sv v,ht=>by simp only[AV.kill];rw[SV.pW h1 h2 v ht]
 |.kR vs,ht=>by simp only[AV.kill];rw[LY h1 h2 vs ht]
 |.dU o off,ht=>by
  simp only[AV.kill]at ht ⊢;cases hs:S o with
  |true=>rw[h1 o hs]
  |false=>
   rw[hs]at ht;have ht:H o=false:=ht
   grind
 |.lg o i off,ht=>by
  simp only[AV.kill]at ht ⊢;cases hs:S o with
  |true=>rw[h1 o hs]
  |false=>
   rw[hs]at ht;have ht:H o=false:=ht
   grind
 |.win o i off,ht=>by
  simp only[AV.kill]at ht ⊢;cases hs:S o with
  |true=>rw[h1 o hs]
  |false=>
   rw[hs]at ht;have ht:H o=false:=ht
   grind
 |.mV _ _ _ _,_=>rfl
 |.dS cs off,ht=>by simp only[AV.kill];rw[qL h1 h2 cs ht]
 |.fn g caps,ht=>by simp only[AV.kill];rw[JJ h1 h2 caps ht]
theorem aB.pW{S S' H:Nat->Bool}(h1:∀o,S o=true->S' o=true)(h2:∀o,S' o=true->S o=true\/H o=true):∀(c:aB),(c.kill S).touch H=false->c.kill S'=c.kill S
 |.var cs,ht=>by simp only[aB.kill];rw[qL h1 h2 cs ht]
 |.arr _ _ _ _,_=>rfl
theorem ah7{v s:St}{lv lp hd:List Nat}(h:v.more s)(h1:∀o,aO lv o=true->aO lp o=true)(h2:∀o,aO lp o=true->aO lv o=true\/aO hd o=true):
 ((pO lv v).YR hd).more (pO lp s):=by
 have hc:∀(s:St),s.YR hd={n:=s.n,tmps:=(λt=>match (s.tmps t).touch (aO hd)with|true=>.undef|false=>s.tmps t),ah:=(λo=>match aO hd o with|true=>none|false=>match s.ah o with|some x=>(match x.touch (aO hd)with|true=>none|false=>some x)|none=>none)}:=by
  intro s;cases hd with
  |cons=>rfl
  |nil=>
   have t0:∀c:Cell,c.touch (aO [])=false:=λc=>by cases c<;>rfl
   have t1:∀cs:List Cell,cs.any (Cell.touch (aO []))=false:=λcs=>by grind
   have t2:∀c:SV,c.touch (aO [])=false:=λc=>by cases c with|one c=>exact t0 c|agg cs=>exact t1 cs
   have t3:∀c:AV,c.touch (aO [])=false:=λc=>by
    cases c with
    |sv v=>exact t2 v
    |kR vs=>show vs.any (SV.touch (aO []))=false;grind
    |dS cs off=>exact t1 cs
    |fn g caps=>show(caps.any λcs=>cs.any (Cell.touch (aO [])))=false;grind
    |_=>rfl
   have t4:∀c:aB,c.touch (aO [])=false:=λc=>by cases c with|var cs=>exact t1 cs|arr _ _ _ _=>rfl
   cases s with
   |mk n t o=>
    simp only[St.YR,St.mk.injEq,as4]
    grind [aO]
 rw[hc,l7,l7];refine⟨λt=>?_,λo y hy=>?_⟩
 .dsimp only[St.kill];cases ht:((v.tmps t).kill (aO lv)).touch (aO hd)with
  |true=>exact .inl rfl
  |false=>
   rcases h.tmps t with e|e
   .rw[e];exact .inl rfl
   grind [AV.pW]
 .dsimp only[St.kill]at hy ⊢;split at hy
  .cases hy
  .next hh=>
   split at hy
   .next x hx=>
    split at hx
    .cases hx
    .next hl=>
     cases hvo:v.ah o with
     |none=>grind
     |some y0=>
      split at hy
      .cases hy
      .next ht=>
       have hlp:aO lp o=false:=by
        grind
       rw[hlp,h.ah o _ hvo]
       grind [aB.pW]
   .cases hy
theorem ah8{base:St}{D U:List Nat}{path:List dA}{L L':Nat->Bool}{i:Nat}{x:dA}(hi:i<path.length)(hL:L i=false)(hL':L' i=true)(h:∀j,j≠i->L' j=L j)
 (hf:Fits D U (pick (path.set i x) 0 L')) (hne:∀y∈pick path 0 L,y.d≠x.d) (hu:x.u≠[]->∀j y,i<j->L j=true->path[j]? =some y->y.u=[]):
 (((kS base (pick path 0 L)).adds x.u).adds x.δ).set x.d x.v=kS base (pick (path.set i x) 0 L')/\(∀o,aO (ni (pick (path.set i x) 0 L')) o=(aO (ni (pick path 0 L)) o||aO x.k o)):=by
 have hsplit:path=path.take i++path[i]::path.drop (i+1):=by simp_all
 have p1:pick path 0 L=pick (path.take i) 0 L++pick (path.drop (i+1)) (i+1) L:=by
  grind [KH,pick]
 have aqy:∀(l:List dA)(j:Nat),(∀k,k<l.length->j+k≠i)->pick l j L'=pick l j L:=by
  intro l
  induction l with
  |nil=>intros;rfl
  |cons y l ih=>intro j hj;rw[pick,pick,h j (by simpa using hj 0 (by simp)),ih (j+1) λk hk=>by have:=hj (k+1) (by simpa using hk);omega]
 have p2:pick (path.set i x) 0 L'=pick (path.take i) 0 L++x::pick (path.drop (i+1)) (i+1) L:=by
  grind [KH,pick]
 rw[p2]at hf;rw[p1]at hne;rw[p1,p2];refine⟨?_,λo=>?_⟩
 case refine_2=>
  grind [pV,pR]
 refine agN hf hne λhxu y hy=>?_
 grind [lZ]
theorem ah9{base:St}{D U:List Nat}{path:List dA}{L L':Nat->Bool}{i:Nat}{x:dA}(hi:i<path.length)(hL:L i=false)(hL':L' i=true)(h:∀j,j≠i->L' j=L j)
 (hf:Fits D U (pick (path.set i x) 0 L')) (hne:∀y∈pick path 0 L,y.d≠x.d) (hu:x.u≠[]->∀j y,i<j->L j=true->path[j]? =some y->y.u=[])
 (hv:x.v.kill (aO (ni (pick (path.set i x) 0 L')))=x.v)
 (hxo:∀o y,(look x.δ o=some y\/look x.u o=some y)->aO (ni (pick (path.set i x) 0 L')) o=false/\y.kill (aO (ni (pick (path.set i x) 0 L')))=y):
 (((pO x.k (after base path L)).adds x.u).adds x.δ).set x.d x.v=after base (path.set i x) L':=by
 obtain⟨e1,e2⟩:=ah8 (base:=base) hi hL hL' h hf hne hu;have e3:pO x.k (after base path L)=(kS base (pick path 0 L)).kill (aO (ni (pick (path.set i x) 0 L'))):=by
  grind [after,l7,St.oq]
 rw[e3];unfold after;rw[l7,← e1];have f1:∀s:St,((s.adds x.u).adds x.δ)={s with ah:=((s.adds x.u).adds x.δ).ah}:=λs=>by grind [TW]
 simp only[St.set,St.kill,St.mk.injEq,as4]
 grind [qh]
theorem aia{base:St}{path:List dA}{L:Nat->Bool}(hL:∀i,L i=false):after base path L=base:=by unfold after;rw[adt path 0 L λi _=>hL i];rfl
theorem akr(h:Rel w0 M T γ st a w)(D:List Nat):Rel w0 M T γ (bI D st) a w:=h.kill _
theorem adx{D:List Nat}{o:Nat}(h:aO D (o / 64)=true):(bI D st).ah o=none:=by simp[bI,St.kill,h]
theorem aib{R:Reg}{path:List dA}{L:Nat->Bool}{i:Nat}(hf:Fits R.D R.U (pick path 0 L))(hsub:∀j,(R.ms.getD i 0).testBit j=true->L j=true)
 (hidx:∀k x,path[k]? =some x->idxOf R.D x.d 0=some k) (hi:L i=false) (hdown:∀k,L k=true->(R.ms.getD k 0).testBit i=false)
 (heff:Ei R.ms R.E i=true->∀j x,path[j]? =some x->x.u≠[]->L j=true->(R.ms.getD i 0).testBit j=true):
 ((match Ei R.ms R.E i with
   |true=>kS (bI R.D st) (pick path 0 (R.ms.getD i 0).testBit)
   |false=>(kS (bI R.D st) (pick path 0 (R.ms.getD i 0).testBit)).hide R.U).veil R i).more (kS (bI R.D st) (pick path 0 L)):=by
 have hmem:∀x∈pick path 0 (R.ms.getD i 0).testBit,x∈pick path 0 L:=λx hx=>by
  grind [lZ]
 have ht:∀t,Wx R i t=false->uG (pick path 0 L) t ((bI R.D st).tmps t)=uG (pick path 0 (R.ms.getD i 0).testBit) t ((bI R.D st).tmps t):=by
  grind [Rf,YT,lZ,Wx,Nat.eq_of_beq_eq_true]
 have hO:∀o y,lookO (pick path 0 (R.ms.getD i 0).testBit) o ((bI R.D st).ah o)=some y->lookO (pick path 0 L) o ((bI R.D st).ah o)=some y:=by
  intro o y hy;by_cases he:∃x∈pick path 0 (R.ms.getD i 0).testBit,∃z,look x.δ o=some z
  .obtain⟨x,hx,z,hz⟩:=he;have aqz:∀w∈pick path 0 L,∀z',look w.δ o=some z'->x=w:=λw hw z' hz'=>
    hf.one x (hmem x hx) w hw ((pU (hf.new x (hmem x hx)) hz).symm.trans (pU (hf.new w hw) hz'))
   grind [adw]
  .have hno:∀x∈pick path 0 (R.ms.getD i 0).testBit,look x.δ o=none:=λx hx=>by
    cases hl:look x.δ o with
    |none=>rfl
    |some z=>grind
   rw[G7 _ hno]at hy;rw[G7,hy];intro x hx;cases hl:look x.δ o with
   |none=>rfl
   |some z=>rw[adx (by rw[pU (hf.new x hx) hl];exact hf.mem x hx)]at hy;cases hy
 have hsame:∀o y,nP (pick path 0 (R.ms.getD i 0).testBit) o=nP (pick path 0 L) o->(kS (bI R.D st) (pick path 0 (R.ms.getD i 0).testBit)).ah o=some y->(kS (bI R.D st) (pick path 0 L)).ah o=some y:=by
  grind [kS]
 have alr:∀s:St,(∀t,s.tmps t=uG (pick path 0 (R.ms.getD i 0).testBit) t ((bI R.D st).tmps t))->(∀o y,s.ah o=some y->(kS (bI R.D st) (pick path 0 L)).ah o=some y)->(s.veil R i).more (kS (bI R.D st) (pick path 0 L)):=by
  intro s h1 h2;refine⟨λt=>?_,h2⟩;show(match Wx R i t with|true=>AV.undef|false=>s.tmps t)=.undef\/_=(match Wx R i t with|true=>AV.undef|false=>s.tmps t);cases hh:Wx R i t with
  |true=>exact .inl rfl
  |false=>right;rw[h1 t];exact ht t hh
 split
 .next hc=>
  refine alr _ (λt=>rfl) λo y hy=>hsame o y ?_ hy
  grind [Vr]
 .next hc=>
  refine alr _ (λt=>rfl) λo y hy=>?_;unfold St.hide at hy;dsimp only at hy;split at hy
  .cases hy
  .next hU=>
   have nou:∀x∈pick path 0 L,look x.u o=none:=λx hx=>by
    cases hl:look x.u o with
    |none=>rfl
    |some z=>have:=(hf.upd x hx o z hl).1;grind
   grind [Em]
theorem ajw(st:St)(U:List Nat)(S:Nat->Bool):(st.kill S).hide U=(st.hide U).kill S:=by
 simp only[St.hide,St.kill,St.mk.injEq,as4]
 grind
theorem ajx(st:St)(R:Reg)(i:Nat)(S:Nat->Bool):(st.kill S).veil R i=(st.veil R i).kill S:=by
 simp only[St.veil,St.kill,St.mk.injEq,as4,and_true]
 funext t
 cases Wx R i t<;>rfl
theorem afB{ms:List Nat}{i e q:Nat}(YU:e≠i)(h1:(ms.getD i 0).testBit e=false)(h2:(ms.getD e 0).testBit i=false):∀(A:List (Nat×Nat)),Fe A e q=true->aO (abH ms i A) q=true
 |[],h=>by cases h
 |(e',q')::r,h=>by
  rw[Fe]at h;rw[abH];cases hb:Nat.beq e' e&&Nat.beq q' q with
  |true=>
   rw[aq5]at hb;rw[aq3 hb.1,aq3 hb.2,h1,h2,FX YU];simp[aO,ar4]
  |false=>
   rw[hb]at h;have ih:=afB YU h1 h2 r h;split
   .exact ih
   .rw[aO,ih];split<;>rfl
theorem agO{R:Reg}{path:List dA}{L:Nat->Bool}{i:Nat}(hf:Fits R.D R.U (pick path 0 L))(hsub:∀j,(R.ms.getD i 0).testBit j=true->L j=true)
 (hidx:∀k x,path[k]? =some x->idxOf R.D x.d 0=some k) (hi:L i=false) (hdown:∀k,L k=true->(R.ms.getD k 0).testBit i=false)
 (heff:Ei R.ms R.E i=true->∀j x,path[j]? =some x->x.u≠[]->L j=true->(R.ms.getD i 0).testBit j=true)
 (hk:∀e x,path[e]? =some x->L e=true->∀q∈x.k,Fe R.A e q=true):
 (viewAt R (bI R.D st) path i).more (after (bI R.D st) path L):=by
 have h0:=aib (st:=st) hf hsub hidx hi hdown heff;have e:viewAt R (bI R.D st) path i=(pO (ni (pick path 0 (R.ms.getD i 0).testBit)) ((match Ei R.ms R.E i with
  |true=>kS (bI R.D st) (pick path 0 (R.ms.getD i 0).testBit)
  |false=>(kS (bI R.D st) (pick path 0 (R.ms.getD i 0).testBit)).hide R.U).veil R i)).YR (abH R.ms i R.A):=by
  grind [viewAt,after,l7,ajw,ajx]
 rw[e];refine ah7 h0 (λo ho=>?_) λo ho=>?_
 · grind [pV,lZ]
 grind [pV,lZ,afB]
theorem ady:∀(l:List Nat)(j i d:Nat),nodup l=true->l[i]? =some d->idxOf l d j=some (j+i)
 |[],_,_,_,_,h=>by simp at h
 |x::r,j,0,d,_,h=>by
  grind [idxOf,Nat.beq_refl]
 |x::r,j,i+1,d,hn,h=>by
  rw[nodup,aq5]at hn;have hne:Nat.beq d x=false:=by
   grind [Nat.eq_of_beq_eq_true,pR]
  rw[idxOf,hne,show j+(i+1)=j+1+i by omega];exact ady r (j+1) i d hn.2 (by simpa using h)
end Go.Fw
namespace Go.Fw
open Go
variable {P:Program} {w0:World} {M:Nat->Prop} {T:Ext} {γ γ':Nat->Value} {st s:St} {a:Act} {w w':World} {Θ:gU} {Γ:jf}
theorem Cell.vI{S:Nat->Bool}(h:∀o,S o=false):∀(c:Cell),c.kill S=c
 |.ref o=>by grind [Cell.kill]
 |.int _ _|.bool _|.str _|.nil|.sl _ _ _ _|.junk=>rfl
theorem CY{S:Nat->Bool}(h:∀o,S o=false)(cs:List Cell):cs.map (Cell.kill S)=cs:=by rw[show Cell.kill S=id from funext (Cell.vI h),asO]
theorem SV.vI{S:Nat->Bool}(h:∀o,S o=false):∀(c:SV),c.kill S=c
 |.one c=>by grind [SV.kill,Cell.vI]
 |.agg cs=>by grind [SV.kill,CY]
theorem AV.vI{S:Nat->Bool}(h:∀o,S o=false):∀(c:AV),c.kill S=c
 |.undef=>rfl
 |.sv v=>by grind [AV.kill,SV.vI]
 |.kR vs=>by simp only[AV.kill];rw[show SV.kill S=id from funext (SV.vI h),asO]
 |.dU o off=>by grind [AV.kill]
 |.lg o i off=>by grind [AV.kill]
 |.win o i off=>by grind [AV.kill]
 |.mV _ _ _ _=>rfl
 |.dS cs off=>by grind [AV.kill,CY]
 |.fn f caps=>by simp only[AV.kill];rw[show List.map (Cell.kill S)=id from funext (CY h),asO]
theorem aB.vI{S:Nat->Bool}(h:∀o,S o=false):∀(c:aB),c.kill S=c
 |.var cs=>by grind [aB.kill,CY]
 |.arr _ _ _ _=>rfl
theorem St.vI{S:Nat->Bool}(h:∀o,S o=false)(st:St):st.kill S=st:=by
 unfold St.kill;rw[show(λt=>(st.tmps t).kill S)=st.tmps from funext λt=>AV.vI h _];have:(λo=>match S o with|true=>none|false=>(st.ah o).map (aB.kill S))=st.ah:=by
  funext o
  rw[h o,show aB.kill S=id from funext (aB.vI h)];cases st.ah o<;>rfl
 simp_all
theorem aic:∀(c:Cell),c.refs=[]->c.view s=c.view st
 |.int _ _,_|.bool _,_|.str _,_|.nil,_|.sl _ _ _ _,_|.junk,_=>rfl
theorem Vu:∀(cs:List Cell),cs.flatMap Cell.refs=[]->cs.map (Cell.view s)=cs.map (Cell.view st)
 |[],_=>rfl
 |c::cs,h=>by rw[arO,arG]at h;rw[arB,arB,aic c h.1,Vu cs h.2]
theorem Ri(h:st.more s){m:Mode}{x:AV}{r:Arg×Option Nat}(hr:oN st m x=some r):oN s m x=some r:=by
 unfold oN at hr ⊢;cases m with
 |val=>
  grind [xU]
 |own=>
  dsimp only at hr ⊢;split at hr
  .split at hr
   .next ho=>rw[h.ah _ _ ho];exact hr
   .cases hr
  .cases hr
 |ptr=>
  dsimp only at hr ⊢;split at hr
  .split at hr
   .next hb ho=>
    split at hr
    .next hn=>rw[hb,h.ah _ _ ho];grind [Vu]
    .cases hr
   .cases hr
  .cases hr
theorem Pj{m:Mode}{x:AV}{r:Arg×Option Nat}(hr:oN st m x=some r):x≠ .undef:=by rintro rfl;cases m<;>simp[oN,lW]at hr
theorem En(h:st.more s):∀(os:List (Option Nat))(aJ:List Eff)(δ:List (Nat×aB)),lK st os aJ=some δ->lK s os aJ=some δ
 |[],_,_,hb=>by grind [lK]
 |none::os,aJ,δ,hb=>by exact En h os _ δ hb
 |some o::os,aJ,δ,hb=>by
  unfold lK at hb ⊢;split at hb
  .next h1 h2=>rw[h1,En h _ _ _ h2];exact hb
  .next h1 h2 h3=>rw[h1,h.ah _ _ h2,En h _ _ _ h3];omega
  .next h1 h2 h3=>rw[h1,h.ah _ _ h2,En h _ _ _ h3];omega
  .cases hb
theorem KI:∀(os:List (Option Nat))(aJ:List Eff),Q9 os aJ=true->∀p,gW os aJ p=false
 |[],_,_,_=>rfl
 |none::os,aJ,h,p=>by exact KI os _ h p
 |some o::os,aJ,h,p=>by
  unfold Q9 at h;unfold gW;split at h
  .next cs he=>rw[he];exact KI os _ h p
  .cases h
theorem ad4(h:st.more s){m:Mode}{x:AV}{r:Arg×Option Nat}(hr:qJ st m x=some r):qJ s m x=some r:=by
 cases m with
 |val=>
  grind [qJ,xU]
 |own=>exact Ri h (m:=.own) hr
 |ptr=>exact Ri h (m:=.ptr) hr
theorem abI{m:Mode}{x:AV}{r:Arg×Option Nat}(hr:qJ st m x=some r):x≠ .undef:=by
 cases m with
 |val=>rintro rfl;simp[qJ,lW]at hr
 |own=>exact Pj (m:=.own) hr
 |ptr=>exact Pj (m:=.ptr) hr
theorem Vw(h:st.more s):∀(ms:List Mode)(xs:List AV)(r:List Arg×List (Option Nat)),vF st ms xs=some r->vF s ms xs=some r
 |_,[],r,hr=>by grind [vF]
 |ms,x::xs,r,hr=>by
  unfold vF at hr ⊢;split at hr
  .next h1 h2=>rw[ad4 h h1,Vw h _ _ _ h2];exact hr
  .cases hr
theorem Rj:∀(ms:List Mode)(xs:List AV)(r:List Arg×List (Option Nat)),vF st ms xs=some r->∀x∈xs,x≠ .undef
 |_,[],_,_,x,hx=>by cases hx
 |ms,x::xs,r,hr,y,hy=>by
  unfold vF at hr;split at hr
  .next h1 h2=>
   rcases arD.1 hy with rfl|hy
   .exact abI h1
   .exact Rj _ _ _ h2 y hy
  .cases hr
theorem aid{xs:List AV}(h:D7 xs=true):rH xs=[]:=by
 grind [D7]
theorem xG:∀(ms:List Mode)(xs:List AV)(r:List Arg×List (Option Nat)),rH (BF ms xs)=[]->vF st ms xs=some r->hands st ms xs=some r
 |_,[],r,_,hr=>by grind [vF,hands]
 |ms,x::xs,r,hn,hr=>by
  unfold vF at hr;split at hr
  .next a o as os h1 h2=>
   have key:hands st ms.tail xs=some (as,os)/\oN st (ms.headD .val) x=some (a,o):=by
    cases ms with
    |nil=>
     have hn':x.refs++rH xs=[]:=hn;rw[arG]at hn';refine⟨xG [] xs _ (by cases xs<;>exact hn'.2) h2,?_⟩
     grind [qJ,oN]
    |cons m ms=>
     cases m with
     |val=>
      have hn':x.refs++rH (BF ms xs)=[]:=hn;rw[arG]at hn';refine⟨xG ms xs _ hn'.2 h2,?_⟩;have h1:qJ st .val x=some (a,o):=h1;simp only[qJ]at h1;simp only[oN,hn'.1];split at h1
      .next b hb=>rw[hb];exact h1
      .cases h1
     |own=>exact⟨xG ms xs _ hn h2,h1⟩
     |ptr=>exact⟨xG ms xs _ hn h2,h1⟩
   grind [hands]
  .cases hr
theorem ad5{m:Mode}{x:AV}{a:Arg}{o:Option Nat}(h:qJ st m x=some (a,o)):Du false st x a o:=by
 have weak:Du true st x a o->Du false st x a o:=λh=>h.imp (λ⟨h1,_,h3⟩=>⟨h1,(λe=>by cases e),h3⟩) id;cases m with
 |val=>
  simp only[qJ]at h;split at h
  .next b hb=>cases h;exact .inl ⟨rfl,(λe=>by cases e),hb⟩
  .cases h
 |own=>exact weak (Ik (m:=.own) h)
 |ptr=>exact weak (Ik (m:=.ptr) h)
theorem Vx:∀(ms:List Mode)(xs:List AV)(as:List Arg)(os:List (Option Nat)),vF st ms xs=some (as,os)->nZ false st xs as os
 |_,[],as,os,h=>by cases h;trivial
 |ms,x::xs,as,os,h=>by
  unfold vF at h;split at h
  .next a o as' os' h1 h2=>cases h;exact⟨ad5 h1,Vx ms.tail xs as' os' h2⟩
  .cases h
theorem afC{G:iQ}(hE:oO P G Θ Γ w0 M)(h:Rel w0 M T γ s a w)(hm:st.more s)(o:Oper){D U:List Nat}{d:Nat}{p:Prop}{ρ:KA}{os:List (Option Nat)×Bool}
 (hc:LX Γ st o.op=some (p,ρ,os)) (hp:p) (hd:∀q,q / 64=d->s.ah q=none) (hch:∀t,ρ.R t->∃r,Ej D U d st os (ρ.out t) (ρ.aJ t)=some r) {next:Act->World->Prop} {Q:Exit->Act->World->Prop}
 (hn:∀t v υ δ u γ' w',ρ.R t->Ej D U d st os (ρ.out t) (ρ.aJ t)=some (v,υ,δ)->Rel w0 M T γ' ((s.adds υ).adds δ) a w'->aP (aj w0 T γ' ((s.adds υ).adds δ) w') v u->next (a.put o.dst u) w'):o.wp P a w next Q:=by
 unfold LX at hc;split at hc
 case h_2=>cases hc
 next f args mM hop=>
 split at hc
 case h_2=>cases hc
 next ms con hcon=>
 split at hc
 case h_2=>cases hc
 next vs os' QO=>
 split at hc
 case h_2=>cases hc
 next hno=>
 split at hc
 case h_2=>cases hc
 next q ρ' hq=>
 cases hc;have hand:handed s args.toList []=handed st args.toList []:=KF hm [] _ (Rj _ _ _ QO);have abJ:=Vw hm _ _ _ QO;rw[← hand]at abJ hno hch hn;obtain⟨hok,hcall⟩:=hE.aex f ms con hcon;have hv:aP (aj w0 T γ s w) (.fn f []) (a.eval (.func f)):=gI h (.func f);obtain⟨us,Yu,hkx⟩:=hv;unfold Oper.wp;rw[Jz hop Yu hcall,asY];have hxs:lH (aj w0 T γ s w) (handed s args.toList []) (args.map a.eval++us).toList:=by
  grind [Array.toList_map,Ed]
 have hk:(d*64+1)%64=1:=by omega
 have hspec:∀t,ρ.R t->∃υ,uZ os'=true/\FW (ρ.aJ t) ((ρ.out t).take (d*64+1)).2=true/\lK s os' (ρ.aJ t)=some υ/\s.kill (gW os' (ρ.aJ t))=s/\iL s ((ρ.out t).take (d*64+1)).2=true/\
  (!(!(D7 (BF ms (handed s args.toList []))))||((ρ.out t).made&&Il (ρ.aJ t)))=true/\
  Ej D U d st (os',!(D7 (BF ms (handed s args.toList [])))) (ρ.out t) (ρ.aJ t)=some (((ρ.out t).take (d*64+1)).1,υ,((ρ.out t).take (d*64+1)).2):=by
  intro t ht;obtain⟨r,hr⟩:=hch t ht;have hr0:=hr;unfold Ej at hr;split at hr
  .next υ hnd hb=>
   rw[aq5,aq5,aq5,aq5]at hnd;split at hr
   .cases hr;refine⟨υ,hnd.1,hnd.2.1,En hm _ _ _ hb,St.vI (KI _ _ hnd.2.2.1) s,?_,hnd.2.2.2.2,hr0⟩;refine arv.2 λz hz=>?_;rw[hd z.1 (aq3 (arv.1 hnd.2.2.2.1 z hz))];rfl
   .cases hr
  .cases hr
 have hpre:∀t,ρ.R t->∃δ,lK s os' (ρ.aJ t)=some δ/\iL (s.kill (gW os' (ρ.aJ t))) ((ρ.out t).take (d*64+1)).2=true/\FW (ρ.aJ t) ((ρ.out t).take (d*64+1)).2=true:=λt ht=>by
  grind
 obtain⟨t0,ht0⟩:=(hok vs _ ρ hq hp).1;obtain⟨_,hnd,_⟩:=hspec t0 ht0;have amF:Calls P f (args.map a.eval++us) w λe w'=>∃t δ,ρ.R t/\lK s os' (ρ.aJ t)=some δ/\∃v γ',e=.returned v/\
  Rel w0 M T γ' (((s.kill (gW os' (ρ.aJ t))).adds δ).adds ((ρ.out t).take (d*64+1)).2) a w'/\aP (aj w0 T γ' (((s.kill (gW os' (ρ.aJ t))).adds δ).adds ((ρ.out t).take (d*64+1)).2) w') ((ρ.out t).take (d*64+1)).1 v:=by
  cases hnr:D7 (BF ms (handed s args.toList []))with
  |true=>exact h.ag8 hE hxs (NC ms _ vs os' (xG ms _ _ (aid hnr) abJ)) hnd hk hok hq hp hpre
  |false=>
   rw[hnr]at hno;refine h.afa hE hxs (Vx ms _ vs os' abJ) hnd hk hok hq hp (λq e r l he=>?_) (λt ht=>?_) hpre
   .unfold eF at he;split at he
    .next e' r' l' hb=>have:=arv.1 hno _ (arJ hb);cases this
    .split at he<;>cases he
    .cases he
   grind
 refine amF.mono ?_
 grind
theorem zF{ops:Array Oper}{listed:Array Bool}{i:Nat}:i∈Region.ready .any ops listed↔
 ∃o,ops[i]? =some o/\listed.getD i true=false/\∀e∈o.after,Region.binds .any e=true->listed.getD e.on false=true:=by
 grind [mem_ready]
theorem JK{listed:Array Bool}{i:Nat}(hi:i<listed.size):listed.getD i true=listed.getD i false:=by
 grind
theorem al3(d:Nat):(d*64+1) / 64=d:=by omega
theorem adz{o:Op}(h:vC o=true):wU Γ o=true:=by
 unfold vC at h;split at h
 .rfl
 .cases h
theorem Rel.amG(h:Rel w0 M T γ st a w)(d:Nat)(hd:st.n<=d)(v:AV)(hv:v=.kR []):Rel w0 M T γ (st.set d v) (a.put none undef) w:=by
 refine⟨h.mT,h.defers,h.size,h.os,h.tape,h.output,h.grow,h.kept,λt=>?_,h.ah,h.lt,h.sep,h.pin⟩;show aP _ (match Nat.beq t d with|true=>v|false=>st.tmps t) (a.tmps.getD t undef);cases hb:Nat.beq t d with
 |false=>exact h.tmps t
 |true=>
  have e:=aq3 hb;have hs:=h.size;have:a.tmps.getD t undef=undef:=by grind
  rw[this,hv];exact⟨#[],rfl,trivial⟩
theorem abK{G:iQ}(hE:oO P G Θ Γ w0 M){s:St}(h:Rel w0 M T γ s a w)(hm:st.more s)(o:Oper){υ:List (Nat×aB)}(hc:Iy Θ st o.op=some υ){next:Act->World->Prop}{Q:Exit->Act->World->Prop}
 (hn:∀γ' w',Rel w0 M T γ' ((s.adds υ).adds []) a w'->next (a.put o.dst undef) w'):o.wp P a w next Q:=by
 unfold Iy at hc;split at hc
 case h_2=>cases hc
 next t p x hop=>
 split at hc
 case h_2=>cases hc
 next v ti q off hv ht hp=>
 split at hc
 case h_2=>cases hc
 next cs hlen ho=>
 split at hc
 case h_2=>cases hc
 next Nz=>
 cases hc;have hs:store s (.dU q off) v=some (True,s.add q (.var (splice cs off v.cells))):=by unfold store;simp only[hm.ah q _ ho,Nz]
 have hpv:=gI h p;rw[bD hm hp (by simp)]at hpv;have hxv:=gI h x;rw[bD hm hv (by simp)]at hxv;obtain⟨w',h1,h2⟩:=adb hE.types h ht hs trivial hpv hxv (aq3 hlen);exact Oper.wp_skip (w':=w') (by simp_all [execOp]) (hn γ w' h2)
theorem Cell.jV{S:Nat->Bool}(st:St):∀(c:Cell),c.kill S=c->c.freeze st S=c
 |.ref o,h=>by
  grind [Cell.kill,Cell.freeze]
 |.int _ _,_|.bool _,_|.str _,_|.nil,_|.sl _ _ _ _,_|.junk,_=>rfl
theorem l9{S:Nat->Bool}(st:St):∀(cs:List Cell),cs.map (Cell.kill S)=cs->cs.map (Cell.freeze st S)=cs
 |[],_=>rfl
 |c::cs,h=>by rw[arB,List.cons.injEq]at h;rw[arB,Cell.jV st c h.1,l9 st cs h.2]
theorem SV.jV{S:Nat->Bool}(st:St):∀(c:SV),c.kill S=c->c.freeze st S=c
 |.one c,h=>by
  grind [SV.kill,SV.freeze,Cell.jV]
 |.agg cs,h=>by
  grind [SV.kill,SV.freeze,l9]
theorem F9{S:Nat->Bool}(st:St):∀(cs:List SV),cs.map (SV.kill S)=cs->cs.map (SV.freeze st S)=cs
 |[],_=>rfl
 |c::cs,h=>by rw[arB,List.cons.injEq]at h;rw[arB,SV.jV st c h.1,F9 st cs h.2]
theorem ER{S:Nat->Bool}(st:St):∀(l:List (List Cell)),l.map (List.map (Cell.kill S))=l->l.map (List.map (Cell.freeze st S))=l
 |[],_=>rfl
 |c::cs,h=>by rw[arB,List.cons.injEq]at h;rw[arB,l9 st c h.1,ER st cs h.2]
theorem AV.jV{S:Nat->Bool}(st:St):∀(c:AV),c.kill S=c->c.freeze st S=c
 |.undef,_=>rfl
 |.sv v,h=>by
  grind [AV.kill,AV.freeze,SV.jV]
 |.kR vs,h=>by
  grind [AV.kill,AV.freeze,F9]
 |.dU o off,h=>by
  grind [AV.kill,AV.freeze]
 |.lg o i off,h=>by
  grind [AV.kill,AV.freeze]
 |.win o i off,h=>by
  grind [AV.kill,AV.freeze]
 |.mV _ _ _ _,_=>rfl
 |.dS cs off,h=>by
  grind [AV.kill,AV.freeze,l9]
 |.fn f caps,h=>by
  grind [AV.kill,AV.freeze,ER]
theorem aB.jV{S:Nat->Bool}(st:St):∀(c:aB),c.kill S=c->c.freeze st S=c
 |.var cs,h=>by
  grind [aB.kill,aB.freeze,l9]
 |.arr _ _ _ _,_=>rfl
theorem aks{s:St}{γ0:Nat->Value}{w1:World}{a1:Act}(h0:Rel w0 M T γ0 s a1 w1){q:Nat}(hq:s.ah q=none){e:TypeId}{r:ak}{l:List r.den}{fr:Bool}{u:Value}
 (h:Rel w0 M T γ (s.adds [(q,.arr e r l fr)]) a w) (hv:aP (aj w0 T γ (s.adds [(q,.arr e r l fr)]) w) (.sv (.one (.ref q))) u):
 Rel w0 M T γ s a w/\aP (aj w0 T γ s w) (.sv (.one (.sl e r l fr))) u:=by
 have hS:∀o,Nat.beq q o=true->s.ah o=none:=λo ho=>by simp_all
 have wQ:(s.adds [(q,.arr e r l fr)]).ah q=some (.arr e r l fr):=by
  show(match Nat.beq q q with|true=>some _|false=>_)=_
  simp_all
 have hne:∀o,Nat.beq q o=false->(s.adds [(q,.arr e r l fr)]).ah o=s.ah o:=λo ho=>by
  show(match Nat.beq o q with|true=>some _|false=>_)=_
  grind [Nat.eq_of_beq_eq_true]
 have hs:(s.adds [(q,.arr e r l fr)]).freeze (Nat.beq q)=s:=by
  have ht:((s.adds [(q,.arr e r l fr)]).freeze (Nat.beq q)).tmps=s.tmps:=by
   funext t
   exact AV.jV _ _ (AV.qK hS _ _ (h0.tmps t))
  have ho:((s.adds [(q,.arr e r l fr)]).freeze (Nat.beq q)).ah=s.ah:=by
   funext o
   simp only[St.freeze];cases hb:Nat.beq q o with
   |true=>grind
   |false=>
    simp only[hne o hb];cases hx:s.ah o with
    |none=>rfl
    |some x=>simp only[atj,aB.jV _ x (aB.qK hS x (h0.ah o x hx))]
  show(⟨s.n,((s.adds [(q,.arr e r l fr)]).freeze (Nat.beq q)).tmps,((s.adds [(q,.arr e r l fr)]).freeze (Nat.beq q)).ah⟩:St)=⟨s.n,s.tmps,s.ah⟩;rw[ht,ho]
 have h1:=h.freeze (S:=Nat.beq q);have h2:=aP.freeze (S:=Nat.beq q) h _ _ hv
 grind [AV.freeze,SV.freeze,Cell.freeze]
structure Way(R:Reg)(ops:Array Oper)(t0:Nat)(path:List dA):Prop where
 len:path.length=t0
 dst:∀(i:Nat)(o:Oper)(x:dA),ops[i]? =some o->path[i]? =some x->qI R.n i o=some x.d
 akt:∀x∈path,aO R.D x.d=true
 apart:∀(i j:Nat)(x y:dA),path[i]? =some x->path[j]? =some y->x.d=y.d->i=j
 idx:∀(i:Nat)(x:dA),path[i]? =some x->idxOf R.D x.d 0=some i
theorem oP.fit{R:Reg}{base:St}{path:List dA}{i:Nat}{o:Oper}{x:dA}(h:oP Θ Γ R base path i o x):
 AP x.d x.δ=true/\(∀q y,look x.u q=some y->aO R.U q=true/\aO R.D (q / 64)=false)/\(x.u≠[]->wU Γ o.op=true)/\∀q∈x.k,Fe R.A i q=true/\aO R.D (q / 64)=true:=by
 obtain⟨_,_,h3⟩:=h;rcases h3 with⟨_,⟨_,_,p,v,δ,_,_,hn,hx⟩|⟨_,_,p,q,y,_,_,⟨h1,h2,h3⟩,hx⟩|⟨he,_,υ,_,hin,hx⟩|⟨⟨he,_⟩,hk,p,ρ,os,t,_,_,_,_,hres⟩⟩|⟨_,hx⟩
 .obtain⟨l1,l2,l3,l4⟩:=mO R.F ⟨x.d,v,[],δ,[]⟩;rw[← hx]at l2 l3 l4;exact⟨arv.2 λy hy=>arv.1 hn y (l4 y hy),(λq y hy=>by rw[l2]at hy;cases hy),(λhne=>(hne l2).elim),λq hq=>by grind⟩
 .obtain⟨l1,l2,l3,l4⟩:=mO R.F ⟨x.d,.sv (.one (.ref (x.d*64+1))),[],[(x.d*64+1,y)],[q]⟩;rw[← hx]at l2 l3 l4;refine⟨arv.2 λz hz=>?_,(λq y hy=>by rw[l2]at hy;cases hy),(λhne=>(hne l2).elim),λr hr=>?_⟩
  .have:z=(x.d*64+1,y):=by grind
   rw[this];rw[show(x.d*64+1) / 64=x.d by omega,ar4]
  grind
 .rw[hx];refine⟨rfl,λq y hy=>?_,(λ_=>he),λq hq=>by cases hq⟩;have:=arv.1 hin _ (tY _ _ _ hy)
  grind
 .unfold Ej at hres;split at hres
  .next υ hnd hb=>
   split at hres
   .next hall=>
    simp only[Option.some.injEq,Prod.mk.injEq]at hres;obtain⟨_,e2,e3⟩:=hres;refine⟨by grind,λq y hy=>?_,(λ_=>he),λq hq=>by grind⟩;rw[← e2]at hy;have:=arv.1 hall _ (tY _ _ _ hy)
    grind
   .cases hres
  .cases hres
 .rw[hx];exact⟨rfl,(λq y hy=>by cases hy),(λhne=>(hne rfl).elim),λq hq=>by cases hq⟩
theorem YV:∀(l:List Oper)(i j:Nat)(o:Oper),l[j]? =some o->wU Γ o.op=true->i+j∈LW Γ i l
 |[],_,_,_,h,_=>by simp at h
 |x::r,i,0,o,h,he=>by
  grind [LW]
 |x::r,i,j+1,o,h,he=>by
  have:=YV r (i+1) j o (by simpa using h) he
  grind [LW]
theorem Way.fits{R:Reg}{ops:Array Oper}{t0:Nat}{path:List dA}{L:Nat->Bool}{base:St}(W:Way R ops t0 path)(hle:t0<=ops.size)
 (hok:∀j o x,ops[j]? =some o->path[j]? =some x->L j=true->oP Θ Γ R base path j o x):Fits R.D R.U (pick path 0 L):=by
 have get:∀x∈pick path 0 L,∃j o,L j=true/\path[j]? =some x/\ops[j]? =some o:=λx hx=>by obtain⟨j,h1,h2⟩:=(lZ _ _).1 hx;rw[arY]at h1;obtain⟨hj,_⟩:=arf.1 h2;have hlen:=W.len;exact⟨j,ops[j]'(by omega),h1,h2,by simp⟩
 refine⟨λx hx y hy e=>?_,λx hx=>?_,λx hx=>?_,λx hx q z hz=>?_⟩
 .obtain⟨j,_,_,h2,_⟩:=get x hx;obtain⟨k,_,_,h3,_⟩:=get y hy;have:=W.apart j k x y h2 h3 e
  grind
 .obtain⟨j,_,_,h2,_⟩:=get x hx;exact W.akt x (arJ h2)
 .obtain⟨j,o,h1,h2,h3⟩:=get x hx;exact(hok j o x h3 h2 h1).fit.1
 .obtain⟨j,o,h1,h2,h3⟩:=get x hx;exact(hok j o x h3 h2 h1).fit.2.1 q z hz
theorem Way.set{R:Reg}{ops:Array Oper}{t0:Nat}{path:List dA}{i:Nat}{x y:dA}(W:Way R ops t0 path)(hy:path[i]? =some y)(hd:x.d=y.d):Way R ops t0 (path.set i x):=by
 have get:∀(j:Nat)(z:dA),(path.set i x)[j]? =some z->∃z',path[j]? =some z'/\z.d=z'.d:=λj z hz=>by
  grind
 refine⟨by simpa using W.len,λj o z ho hz=>?_,λz hz=>?_,λj k u v hu hv e=>?_,λj z hz=>?_⟩
 .obtain⟨z',h1,h2⟩:=get j z hz;rw[W.dst j o z' ho h1,h2]
 .obtain⟨j,hj⟩:=asA hz;obtain⟨z',h1,h2⟩:=get j z hj;rw[h2];exact W.akt z' (arJ h1)
 .obtain⟨u',h1,h2⟩:=get j u hu;obtain⟨v',h3,h4⟩:=get k v hv;exact W.apart j k u' v' h1 h3 (by omega)
 .obtain⟨z',h1,h2⟩:=get j z hz;rw[h2];exact W.idx j z' h1
theorem aku{G:iQ}(hE:oO P G Θ Γ w0 M){ops:Array Oper}{Q:Exit->Act->World->Prop}{R:Reg}{t0:Nat}{path:List dA}{L L':Nat->Bool}{i:Nat}{o:Oper}
 (W:Way R ops t0 path) (hle:t0<=ops.size) (hit:i<t0)
 (hRn:R.n=st.n) (hDn:∀i o d,ops[i]? =some o->i<t0->o.dst=some d->d<st.n) (hgd:∀i o g b,ops[i]? =some o->i<t0->o.guard=some (g,b)->∃og d,ops[g]? =some og/\og.dst=some d) (hcmp:∀e∈R.E,Ei R.ms R.E e=true) (hEi:∀j o',ops[j]? =some o'->j<t0->wU Γ o'.op=true->j∈R.E)
 (hA:∀e q,Fe R.A e q=true->∃j,idxOf R.D (q / 64) 0=some j/\(R.ms.getD e 0).testBit j=true)
 (ho:ops[i]? =some o) (hen:Enabled Θ Γ R (bI R.D st) path i o)
 (hok:∀j o x,ops[j]? =some o->path[j]? =some x->L j=true->oP Θ Γ R (bI R.D st) path j o x)
 (hcl:∀j k,L j=true->(R.ms.getD j 0).testBit k=true->L k=true)
 (hsub:∀j,(R.ms.getD i 0).testBit j=true->L j=true) (hi:L i=false) (hi':L' i=true) (h:∀j,j≠i->L' j=L j)
 (hR:Rel w0 M T γ (after (bI R.D st) path L) a w) {K:Act->World->Prop}
 (hK:∀x γ' a' w',(∃y,path[i]? =some y/\x.d=y.d)->oP Θ Γ R (bI R.D st) (path.set i x) i o x->Rel w0 M T γ' (after (bI R.D st) (path.set i x) L') a' w'->K a' w'):
 wpOp P ops Q i K a w:=by
 obtain⟨d,hd,hm,hcase⟩:=hen;have hlen:=W.len;have hil:i<path.length:=by omega
 have hy:path[i]? =some path[i]:=by simp[hil]
 have hyd:path[i].d=d:=by
  have:=W.dst i o _ ho hy
  grind
 have hdD:aO R.D d=true:=by rw[← hyd];exact W.akt _ (arJ hy)
 have aeC:o.dst=some d\/(o.dst=none/\vC o.op=true/\st.n<=d):=by
  grind [qI]
 have hfit:=W.fits hle hok;have hne:∀y∈pick path 0 L,y.d≠d:=λy hy' e=>by
  obtain⟨j,h1,h2⟩:=(lZ _ _).1 hy';rw[arY]at h1;have:=W.apart j i y _ h2 hy (by omega)
  grind
 have heff:∀j x,path[j]? =some x->x.u≠[]->L j=true->j∈R.E:=λj x hx hu hL=>by
  obtain⟨hj,_⟩:=arf.1 hx;have hoj:ops[j]? =some (ops[j]'(by omega)):=by simp
  exact hEi j _ hoj (by omega) ((hok j _ x hoj hx hL).fit.2.2.1 hu)
 have al4:Ei R.ms R.E i=true->∀j,j∈R.E->L j=true->(R.ms.getD i 0).testBit j=true:=λhc j hjE hL=>by
  have:=arv.1 hc j hjE;rw[asG,asG]at this;rcases this with g|g|g
  · simp_all
  .exact g
  grind
 have hmore:(viewAt R (bI R.D st) path i).more (after (bI R.D st) path L):=
  agO hfit hsub W.idx hi (λk hk=>by
   grind) (λhc j x hx hu hL=>al4 hc j (heff j x hx hu hL) hL) λe x hx hL q hq=>by
    obtain⟨hj,_⟩:=arf.1 hx;have hoj:ops[e]? =some (ops[e]'(by omega)):=by simp
    exact((hok e _ x hoj hx hL).fit.2.2.2 q hq).1
 have aqA:∀q,aO (ni (pick path 0 L)) q=true->aO R.D (q / 64)=true/\q / 64≠d:=λq hq=>by
  obtain⟨x,hx,hxq⟩:=(pV _).1 hq;obtain⟨e,h1,h2⟩:=(lZ _ _).1 hx;rw[arY]at h1;obtain⟨hj,_⟩:=arf.1 h2;have hoj:ops[e]? =some (ops[e]'(by omega)):=by simp
  have hf:=(hok e _ x hoj h2 h1).fit.2.2.2 q hxq;refine⟨hf.2,λe2=>?_⟩;obtain⟨j,g1,g2⟩:=hA e q hf.1;have:=W.idx i _ hy
  grind
 have hnone:∀q,q / 64=d->(after (bI R.D st) path L).ah q=none:=λq hq=>by
  have hqD:aO R.D (q / 64)=true:=by grind
  have hP:(kS (bI R.D st) (pick path 0 L)).ah q=none:=by
   unfold kS;dsimp only;rw[Em _ λy hy'=>by
    cases hl:look y.u q with
    |none=>rfl
    |some z=>have:=(hfit.upd y hy' q z hl).2;grind]
   dsimp only;rw[G7 _ λy hy'=>by
    cases hl:look y.δ q with
    |none=>rfl
    |some z=>exact(hne y hy' ((pU (hfit.new y hy') hl).symm.trans hq)).elim]
   exact adx hqD
  grind [after,l7,St.kill]
 have hself:∀x:dA,∀j,(R.ms.getD i 0).testBit j=true->path[j]? =(path.set i x)[j]? :=λx j hj=>by
  grind
 have fin:∀(x:dA)(γ':Nat->Value)(w':World)(u:Value),x.d=d->(o.dst=none->x.v=.kR [])->(∀q y,look x.u q=some y->aO R.U q=true/\aO R.D (q / 64)=false)->AP x.d x.δ=true->(x.u≠[]->i∈R.E)->(∀q∈x.k,aO R.D (q / 64)=true/\q / 64≠d)->
  oP Θ Γ R (bI R.D st) path i o x->Rel w0 M T γ' (((pO x.k (after (bI R.D st) path L)).adds x.u).adds x.δ) a w'->aP (aj w0 T γ' (((pO x.k (after (bI R.D st) path L)).adds x.u).adds x.δ) w') x.v u->K (a.put o.dst u) w':=by
  intro x γ' w' u hxd hxv hxu hxn hxE hxk Eo hR' hv;have hn2:(((pO x.k (after (bI R.D st) path L)).adds x.u).adds x.δ).n=st.n:=by rw[(Dt _ _).2,(Dt _ _).2,l7];unfold after;rw[l7];rfl
  have amI:∀q,aO (ni (pick (path.set i x) 0 L')) q=true->aO R.D (q / 64)=true/\q / 64≠d:=λq hq=>by
   obtain⟨y,hy1,hyq⟩:=(pV _).1 hq;obtain⟨e,h1,h2⟩:=(lZ _ _).1 hy1;rw[arY]at h1;by_cases YU:e=i
   · grind
   grind [pV,lZ]
  have als:∀q,aO (ni (pick (path.set i x) 0 L')) q=true->(((pO x.k (after (bI R.D st) path L)).adds x.u).adds x.δ).ah q=none:=λq hq=>by
   obtain⟨g1,g2⟩:=amI q hq;rw[qh,qh];have hδq:look x.δ q=none:=by
    cases hl:look x.δ q with
    |none=>rfl
    |some z=>grind [pU]
   have huq:look x.u q=none:=by
    cases hl:look x.u q with
    |none=>rfl
    |some z=>grind
   rw[hδq,huq];dsimp only;rw[l7];unfold after;rw[l7];obtain⟨y,hy1,hyq⟩:=(pV _).1 hq;obtain⟨e,h1,h2⟩:=(lZ _ _).1 hy1;rw[arY]at h1;by_cases YU:e=i
   · grind [St.kill,pR]
   .rw[ash (as5 YU)]at h2;rw[h e YU]at h1;have:=(pV (o:=q) (pick path 0 L)).2 ⟨y,(lZ _ _).2 ⟨e,by grind,h2⟩,hyq⟩;simp only[St.kill,this,aso];cases aO x.k q<;>rfl
  have hset:Rel w0 M T γ' (St.set (((pO x.k (after (bI R.D st) path L)).adds x.u).adds x.δ) x.d x.v) (a.put o.dst u) w':=by
   rcases aeC with hs|⟨hs,_,hs2⟩
   .rw[hs,← hxd];exact hR'.set x.d (by grind) x.v u hv
   .rw[hs];exact hR'.amG x.d (by omega) x.v (hxv hs)
  have W':Way R ops t0 (path.set i x):=W.set hy (by rw[hxd,hyd]);have anI:Fits R.D R.U (pick (path.set i x) 0 L'):=by
   refine W'.fits (Θ:=Θ) (Γ:=Γ) (base:=bI R.D st) hle λj o' z ho' hz hL=>?_;by_cases e:j=i
   .subst e;rw[List.getElem?_set_self hil]at hz;cases hz;rw[ho]at ho';cases ho';exact Eo.agree (hself x)
   .rw[ash (as5 e)]at hz;rw[h j e]at hL;refine(hok j o' z ho' hz hL).agree λk hk=>?_
    grind
  rw[ah9 hil hi hi' h anI (λy hy'=>by grind) (λhu j y hj hL hy'=>by
   grind [nR]) (AV.qK als _ _ hv) (λq y hq=>by
   have wQ:(((pO x.k (after (bI R.D st) path L)).adds x.u).adds x.δ).ah q=some y:=by
    rw[qh,qh];rcases hq with hq|hq
    .rw[hq]
    .have:look x.δ q=none:=by
      cases hl:look x.δ q with
      |none=>rfl
      |some z=>have h1:=(hxu q y hq).2;rw[(pU hxn hl).trans hxd,hdD]at h1;cases h1
     rw[this,hq]
   refine⟨?_,aB.qK als y (hR'.ah q y wQ)⟩
   grind)]at hset
  exact hK x γ' _ _ ⟨_,hy,by rw[hxd,hyd]⟩ (Eo.agree (hself x)) hset
 have fin2:∀(x:dA)(γ':Nat->Value)(w':World)(u:Value),x.d=d->x.u=[]->(o.dst=none->False)->AP x.d x.δ=true->(∀q∈x.k,aO R.D (q / 64)=true/\q / 64≠d)->
  oP Θ Γ R (bI R.D st) path i o (lI R.F x)->Rel w0 M T γ' (((pO x.k (after (bI R.D st) path L)).adds []).adds x.δ) a w'->aP (aj w0 T γ' (((pO x.k (after (bI R.D st) path L)).adds []).adds x.δ) w') x.v u->K (a.put o.dst u) w':=by
  intro x γ' w' u hxd hxu hno hxn hxk Eo hR' hv;obtain⟨l1,l2,l3,l4⟩:=mO R.F x;refine fin (lI R.F x) γ' w' u (l1.trans hxd) (λh=>(hno h).elim) (λq y hy=>by rw[l2,hxu]at hy;cases hy) (arv.2 λy hy=>by rw[l1];exact arv.1 hxn y (l4 y hy)) (λhne=>(hne (l2.trans hxu)).elim) (by rw[l3];exact hxk) Eo ?_ ?_
  all_goals
   rw[l3,l2,hxu];unfold lI;split
   .next q q' e r l fr _ hv2 hu2 hδ=>
    split
    .next hb=>
     have e1:=aq3 hb;subst e1;rw[hδ]at hR' hv hxn;rw[hv2]at hv;have hqd:q / 64=d:=by have:=aq3 (arv.1 hxn _ arj);exact this.trans hxd
     have hq0:(pO x.k (after (bI R.D st) path L)).ah q=none:=by rw[l7];simp only[St.kill,hnone q hqd,aso];cases aO x.k q<;>rfl
     have:=aks (hR.pO x.k) hq0 hR' hv
     first|exact this.1|exact this.2
    .first|exact hR'|exact hv
   .first|exact hR'|exact hv
 have hgv:∀g b y,o.guard=some (g,b)->(R.ms.getD i 0).testBit g=true->path[g]? =some y->∃og,ops[g]? =some og/\og.dst=some y.d/\∃u,a.tmps[y.d]? =some u/\aP (aj w0 T γ (after (bI R.D st) path L) w) (y.v.kill (aO (ni (pick path 0 L)))) u:=by
  intro g b y hgo hg hy';obtain⟨hgl,_⟩:=arf.1 hy';have hog:ops[g]? =some (ops[g]'(by omega)):=by simp
  have amJ:(ops[g]'(by omega)).dst=some y.d:=by obtain⟨og,e,h1,h2⟩:=hgd i o g b ho hit hgo;rw[hog]at h1;cases h1;have:=W.dst g _ y hog hy';unfold qI at this;rw[h2]at this;rw[h2];exact this
  have hyD:y.d<st.n:=hDn g _ _ hog (by omega) amJ;have hin:y∈pick path 0 L:=(lZ _ _).2 ⟨g,by rw[arY];exact hsub g hg,hy'⟩;have htm:(after (bI R.D st) path L).tmps y.d=y.v.kill (aO (ni (pick path 0 L))):=by unfold after;rw[l7];show(uG (pick path 0 L) y.d _).kill _=_;rw[Rf _ hin λz hz e=>hfit.one y hin z hz e]
  have hr1:=hR.tmps y.d;rw[htm]at hr1;have hsz:y.d<a.tmps.size:=by rw[hR.size];unfold after;rw[l7];exact hyD
  refine⟨_,hog,amJ,a.tmps[y.d],by simp,?_⟩;simpa[Array.getD,hsz]using hr1
 unfold wpOp;simp only[ho];rcases hcase with⟨hw,hcase⟩|hun
 .have hwant:Region.wanted o (yielded ops a.tmps)=true:=by
   rcases hw with e|⟨g,b,y,e1,e2,e3,e4⟩
   .unfold Region.wanted;rw[e]
   .obtain⟨og,k1,k2,u,k3,k4⟩:=hgv g b y e1 e2 e3;rw[e4]at k4;have k4:u=.bool b:=k4;subst k4;unfold Region.wanted;rw[e1];simp[yielded,k1,k2,k3]
  rw[if_pos hwant];left;rcases hcase with⟨he,ha,p,v,δ,hcalm,hp,hn⟩|⟨he,ha,p,q,y,happ,hp,hq1,hq2,hq3⟩|⟨he,hst,υ,hυ,hin⟩|⟨⟨he,hst⟩,p,ρ,os,hrel,hp,hall⟩
  .obtain⟨v',hc',hless⟩:=ai8 hmore d o.op hcalm;have hfr:iL (after (bI R.D st) path L) δ=true:=by refine arv.2 λz hz=>?_;rw[hnone z.1 (aq3 (arv.1 hn z hz))];rfl
   refine GL hE hR o hc' hp hfr ?_;intro u γ' w' hR' hv';have Yu:aP (aj w0 T γ' ((after (bI R.D st) path L).adds δ) w') v u:=by
    rcases hless with e|e
    .rw[e];trivial
    .rw[← e];exact hv'
   have Eo:oP Θ Γ R (bI R.D st) path i o (lI R.F ⟨d,v,[],δ,[]⟩):=by obtain⟨l1,_⟩:=mO R.F ⟨d,v,[],δ,[]⟩;refine⟨by rw[l1];exact hd,hm,.inl ⟨hw,.inl ⟨he,ha,p,v,δ,by rw[l1];exact hcalm,hp,by rw[l1];exact hn,by rw[l1]⟩⟩⟩
   exact fin2 ⟨d,v,[],δ,[]⟩ γ' w' u rfl rfl (λh=>by
    rcases aeC with hs|⟨_,hs,_⟩
    .rw[h]at hs;cases hs
    .rw[adz hs]at he;cases he) hn (λq hq=>by cases hq) Eo hR' Yu
  .have anJ:=agK hmore happ;have Eo:oP Θ Γ R (bI R.D st) path i o (lI R.F ⟨d,.sv (.one (.ref (d*64+1))),[],[(d*64+1,y)],[q]⟩):=by obtain⟨l1,_⟩:=mO R.F ⟨d,.sv (.one (.ref (d*64+1))),[],[(d*64+1,y)],[q]⟩;refine⟨by rw[l1];exact hd,hm,.inl ⟨hw,.inr (.inl ⟨he,ha,p,q,y,happ,hp,by rw[l1];exact⟨hq1,hq2,hq3⟩,by rw[l1]⟩)⟩⟩
   have hkq:∀s:St,s.kill (aO [q])=s.kill (Nat.beq q ·):=λs=>by
    rw[show aO [q]=(Nat.beq q ·)from funext λo=>by
     simp only[aO];cases h1:Nat.beq o q with
     |true=>rw[aq3 h1,ar4]
     |false=>
      cases h2:Nat.beq q o with
      |false=>rfl
      |true=>rw[aq3 h2,ar4]at h1;cases h1]
   refine ajg hE hR o (n:=d*64+1) anJ hp (hnone (d*64+1) (al3 d)) λu γ' w' hR' hv=>?_;rw[← hkq]at hR' hv;exact fin2 ⟨d,.sv (.one (.ref (d*64+1))),[],[(d*64+1,y)],[q]⟩ γ' w' u rfl rfl (λh=>by
    rcases aeC with hs|⟨_,hs,_⟩
    .rw[h]at hs;cases hs
    .rw[adz hs]at he;cases he) (by show(Nat.beq ((d*64+1) / 64) d&&true)=true;rw[show(d*64+1) / 64=d by omega,ar4];rfl)
    (λr hr=>by rw[show r=q by simpa using hr];exact⟨hq1,hq2⟩) Eo hR' hv
  .have Eo:oP Θ Γ R (bI R.D st) path i o ⟨d,.kR [],υ,[],[]⟩:=⟨hd,hm,.inl ⟨hw,.inr (.inr (.inl ⟨he,hst,υ,hυ,hin,rfl⟩))⟩⟩;obtain⟨f1,f2,f3,_⟩:=Eo.fit;refine abK hE hR hmore o hυ λγ' w' hR'=>?_;exact fin ⟨d,.kR [],υ,[],[]⟩ γ' w' undef rfl (λ_=>rfl) f2 f1 (λ_=>hEi i o ho hit he) (λq hq=>by cases hq) Eo hR' ⟨#[],rfl,trivial⟩
  .refine afC hE hR hmore o hrel hp hnone hall λt v υ δ u γ' w' ht hres hR' hv=>?_;have Eo:oP Θ Γ R (bI R.D st) path i o ⟨d,v,υ,δ,[]⟩:=⟨hd,hm,.inl ⟨hw,.inr (.inr (.inr ⟨⟨he,hst⟩,rfl,p,ρ,os,t,hrel,hp,ht,hall,hres⟩))⟩⟩;obtain⟨f1,f2,f3,_⟩:=Eo.fit;exact fin ⟨d,v,υ,δ,[]⟩ γ' w' u rfl (λh=>by
    rcases aeC with hs|⟨_,hs,_⟩
    .rw[h]at hs;cases hs
    .rw[hst]at hs;cases hs) f2 f1 (λ_=>hEi i o ho hit he) (λq hq=>by cases hq) Eo hR' hv
 .have hwant:Region.wanted o (yielded ops a.tmps)=false:=by
   obtain⟨g,b,y,e1,e2,e3,e4⟩:=hun;obtain⟨og,k1,k2,u,k3,k4⟩:=hgv g b y e1 e2 e3;unfold Region.wanted;rw[e1];rcases e4 with⟨c,e4,hne'⟩|⟨vs,e4⟩
   .rw[e4]at k4;have k4:u=.bool c:=k4;subst k4;cases c<;>cases b<;>first|(exact(hne' rfl).elim)|simp[yielded,k1,k2,k3]
   .rw[e4]at k4;obtain⟨us,rfl,_⟩:=k4;simp[yielded,k1,k2,k3]
  rw[if_neg (by rw[hwant];simp)];exact fin (skipped d) γ w undef rfl (λ_=>rfl) (λq y hy=>by cases hy) rfl (λhu=>(hu rfl).elim) (λq hq=>by cases hq) ⟨hd,hm,.inr ⟨hun,rfl⟩⟩ hR ⟨#[],rfl,trivial⟩
theorem fill{G:iQ}(hE:EnvB P G Θ Γ){R:Reg}{base:St}{front:List Oper}{path:List dA}{L:Nat->Bool}
 (NS:∀ext:List dA,WA Θ Γ R base front ext->∀o,front[ext.length]? =some o->Enabled Θ Γ R base ext ext.length o)
 (hok:∀j o x,front[j]? =some o->path[j]? =some x->L j=true->oP Θ Γ R base path j o x) (hlen:path.length=front.length)
 (hcl:∀j k,L j=true->(R.ms.getD j 0).testBit k=true->L k=true):
 ∀n,n<=front.length->∃ext:List dA,ext.length=n/\WA Θ Γ R base front ext/\∀j,j<n->L j=true->ext[j]? =path[j]? :=by
 intro n
 induction n with
 |zero=>exactλ_=>⟨[],rfl,(λi o x _ hx=>by simp at hx),(λj hj=>by omega)⟩
 |succ n ih=>
  intro hn;obtain⟨ext,h1,h2,h3⟩:=ih (by omega);have ho:front[n]? =some (front[n]'(by omega)):=by simp
  have more:∀x:dA,oP Θ Γ R base (ext++[x]) n (front[n]'(by omega)) x->WA Θ Γ R base front (ext++[x]):=by
   intro x hx i o y hi hy;rcases ark i n with hlt|hge
   .rw[ah6 (by omega)]at hy;have:=h2 i o y hi hy;refine this.agree λj hj=>?_;have:j<i:=by
     rcases ark j i with h|h
     .exact h
     .rw[nR this.2.1 h]at hj;cases hj
    grind
   grind
  cases hL:L n with
  |true=>
   have hp:path[n]? =some (path[n]'(by omega)):=by simp
   have hx:=hok n _ _ ho hp hL;have hag:∀j,(R.ms.getD n 0).testBit j=true->path[j]? =(ext++[path[n]'(by omega)])[j]? :=λj hj=>by
    have hjn:j<n:=by
     rcases ark j n with h|h
     .exact h
     .rw[nR hx.2.1 h]at hj;cases hj
    grind
   refine⟨ext++[path[n]'(by omega)],by simp[h1],more _ (hx.agree hag),λj hj hLj=>?_⟩
   grind
  |false=>
   have hen:=NS ext h2 _ (by rw[h1];exact ho);rw[h1]at hen;have hag:∀x:dA,(∃d,qI R.n n (front[n]'(by omega))=some d/\R.ms.getD n 0<2 ^ n)->∀j,(R.ms.getD n 0).testBit j=true->ext[j]? =(ext++[x])[j]? :=λx⟨_,_,hm⟩ j hj=>by
    grind [nR]
   obtain⟨d,hd,hm,hc⟩:=hen;have hx:∃x,oP Θ Γ R base ext n (front[n]'(by omega)) x:=by
    rcases hc with⟨hw,⟨he,ha,p,v,δ,hcalm,hp,hnm⟩|⟨he,ha,p,q,y,happ,hp,hq⟩|⟨he,hst,υ,hυ,hin⟩|⟨⟨he,hst⟩,p,ρ,os,hrel,hp,hall⟩⟩|hun
    .exact⟨lI R.F ⟨d,v,[],δ,[]⟩,by grind [mO],hm,.inl ⟨hw,.inl ⟨he,ha,p,v,δ,by grind [mO],hp,by grind [mO],by grind [mO]⟩⟩⟩
    .exact⟨lI R.F ⟨d,.sv (.one (.ref (d*64+1))),[],[(d*64+1,y)],[q]⟩,by grind [mO],hm,.inl ⟨hw,.inr (.inl ⟨he,ha,p,q,y,happ,hp,by grind [mO],by grind [mO]⟩)⟩⟩
    .exact⟨⟨d,.kR [],υ,[],[]⟩,hd,hm,.inl ⟨hw,.inr (.inr (.inl ⟨he,hst,υ,hυ,hin,rfl⟩))⟩⟩
    .have hne:∃t,ρ.R t:=by
      unfold LX at hrel;split at hrel
      case h_2=>cases hrel
      next f args mM hop=>
      split at hrel
      case h_2=>cases hrel
      next ms con hcon=>
      split at hrel
      case h_2=>cases hrel
      next vs os' QO=>
      split at hrel
      case h_2=>cases hrel
      split at hrel
      case h_2=>cases hrel
      next q ρ' hq=>
      cases hrel;exact((hE.aex f ms con hcon).1 vs _ ρ hq hp).1
     obtain⟨t,ht⟩:=hne;obtain⟨⟨v,υ,δ⟩,hres⟩:=hall t ht;exact⟨⟨d,v,υ,δ,[]⟩,hd,hm,.inl ⟨hw,.inr (.inr (.inr ⟨⟨he,hst⟩,rfl,p,ρ,os,t,hrel,hp,ht,hall,hres⟩))⟩⟩
    .exact⟨skipped d,hd,hm,.inr ⟨hun,rfl⟩⟩
   obtain⟨x,hx⟩:=hx;refine⟨ext++[x],by simp[h1],more x (hx.agree (hag x ⟨d,hd,hm⟩)),λj hj hLj=>?_⟩
   grind
end Go.Fw
namespace Go.Fw
open Go
variable {P:Program}
def handsOn(o:Oper):Option Operand:=match o.op,o.guard with
 |.move x,none=>some x
 |.extract x _,none=>some x
 |_,_=>none
def Operand.IB(d:Nat):Operand->Bool
 |.tmp t=>!(Nat.beq t d)
 |_=>true
def WB(d:Nat)(o:Oper):Bool:=match o.op,o.guard with
 |.move x,none|.assign x,none|.extract x _,none=>Operand.IB d x
 |.store _ a x,none=>Operand.IB d a&&Operand.IB d x
 |_,_=>false
def passes(f o:Oper):Bool:=match handsOn f,f.dst with
 |some x,some d=>WB d o&&(match o.dst with|some e=>!(Nat.beq e d)&&Operand.IB e x|none=>true)
 |_,_=>false
theorem eval_put_ne{a:Act}{d:Option Tmp}{v:Value}{x:Operand}(h:∀e,d=some e->Operand.IB e x=true):(a.put d v).eval x=a.eval x:=by
 cases d with
 |none=>rfl
 |some e=>
  cases x with
  |tmp t=>
   have hne:e≠t:=λh=>by simp_all [Operand.IB]
   show(a.tmps.setIfInBounds e v).getD t undef=a.tmps.getD t undef
   simp_all
  |const _=>rfl
  |global _=>rfl
  |func _=>rfl
theorem put_comm{a:Act}{d e:Option Tmp}{u v:Value}(h:∀x y,d=some x->e=some y->x≠y):(a.put d u).put e v=(a.put e v).put d u:=by
 cases d with
 |none=>rfl
 |some x=>cases e with
  |none=>rfl
  |some y=>
   grind [Act.put,Array.setIfInBounds_comm]
theorem afD{f:Oper}{x:Operand}(hf:handsOn f=some x):f.guard=none/\
 ((∃g:Value->Option Value,(∀b:Act,∀w',(match g (b.eval x)with|some u=>(execOp b.eval f).run P w'=.ok (.value u) w'|none=>∃m,(execOp b.eval f).run P w'=m/\∀next Q,¬f.upon P b next Q m)))):=by
 unfold handsOn at hf;split at hf
 .next y hop hg=>cases hf;exact⟨hg,λv=>some v,λb w'=>by simp[execOp,hop]⟩
 .next y ix hop hg=>
  cases hf;refine⟨hg,λv=>match v with|.tuple vs=>vs[ix]? |_=>none,λb w'=>?_⟩;cases hv:b.eval x with
  |tuple vs=>
   cases hq:vs[ix]? with
   |some u=>simp_all [execOp,Instr.extract]
   |none=>
    simp_all [execOp,Instr.extract,Oper.upon]
  |_=>simp[execOp,hop,hv,Instr.extract,stuck,Oper.upon]
 .cases hf
theorem ad6{d:Nat}{o:Oper}(h:WB d o=true):o.guard=none/\
 (∀(a:Act)(v:Value),execOp (a.put (some d) v).eval o=execOp a.eval o)/\
 (∀(a:Act)(w:World),(∃v w',(execOp a.eval o).run P w=.ok (.value v) w')\/(∃w',(execOp a.eval o).run P w=.ok .skip w')\/∃x w',(execOp a.eval o).run P w=.halt x w'):=by
 unfold WB at h;have ev:∀(a:Act)(v:Value)(x:Operand),Operand.IB d x=true->(a.put (some d) v).eval x=a.eval x:=λa v x hx=>eval_put_ne λe he=>by grind
 split at h
 · simp_all [execOp]
 · simp_all [execOp]
 .next x ix hop hg=>
  refine⟨hg,λa v=>?_,λa w=>?_⟩
  · grind [execOp]
  .cases hr:(Instr.extract (a.eval x) ix).run P w with
   |ok u w'=>simp_all [execOp]
   |halt u w'=>simp_all [execOp]
 .next t b x hop hg=>
  refine⟨hg,λa v=>?_,λa w=>?_⟩
  · grind [execOp]
  .cases hr:(Instr.storeAt t (a.eval b) (a.eval x)).run P w with
   |ok u w'=>simp_all [execOp]
   |halt u w'=>simp_all [execOp]
 .cases h
def stepW(P:Program)(ops:Array Oper)(Q:Exit->Act->World->Prop)(o:Oper)(K:Act->World->Prop)(a:Act)(w:World):Prop:=
 if Region.wanted o (yielded ops a.tmps)then o.wp P a w K Q\/(o.asks P a w/\LetsOut Q)else K (a.put o.dst undef) w
theorem NT{ops:Array Oper}{Q:Exit->Act->World->Prop}{o:Oper}{K K':Act->World->Prop}{a:Act}{w:World}(h:∀a w,K a w->K' a w)(hs:stepW P ops Q o K a w):stepW P ops Q o K' a w:=by
 grind [stepW,Oper.wp_mono]
theorem G8{ops:Array Oper}{Q:Exit->Act->World->Prop}(hO:¬LetsOut Q){o:Oper}(hg:o.guard=none){K:Act->World->Prop}{a:Act}{w:World}:stepW P ops Q o K a w↔o.wp P a w K Q:=by
 grind [Region.wanted,stepW]
theorem aie{ops:Array Oper}{Q:Exit->Act->World->Prop}(hQ:∀c a w,¬Q (.panic c) a w)(hO:¬LetsOut Q){f o:Oper}(h:passes f o=true){K:Act->World->Prop}{a:Act}{w:World}
 (hs:stepW P ops Q f (stepW P ops Q o K) a w):stepW P ops Q o (stepW P ops Q f K) a w:=by
 unfold passes at h;split at h
 .next x d hx hd=>
  rw[aq5]at h;obtain⟨hp,hde⟩:=h;obtain⟨hgf,g,hg⟩:=afD (P:=P) hx;obtain⟨hgo,hsame,hout⟩:=ad6 (P:=P) hp;rw[G8 hO hgf]at hs;rw[G8 hO hgo];have hxo:∀(v:Value),(a.put o.dst v).eval x=a.eval x:=λv=>eval_put_ne λe he=>by
   grind
  have hcomm:∀(u v:Value),(a.put f.dst u).put o.dst v=(a.put o.dst v).put f.dst u:=λu v=>put_comm λx y hx hy=>by intro e;simp_all
  have h0:=hg a w;cases hga:g (a.eval x)with
  |none=>
   grind [Oper.wp]
  |some u=>
   rw[hga]at h0;unfold Oper.wp at hs;rw[h0]at hs;have hs:stepW P ops Q o K (a.put f.dst u) w:=hs;rw[G8 hO hgo]at hs;unfold Oper.wp at hs ⊢;rw[hd,hsame]at hs;rw[← hd]at hs;have again:∀(v:Value)(w':World),K ((a.put f.dst u).put o.dst v) w'->stepW P ops Q f K (a.put o.dst v) w':=by
    intro v w' hK;rw[G8 hO hgf];have h1:=hg (a.put o.dst v) w';rw[hxo,hga]at h1;unfold Oper.wp;rw[h1];show K _ _
    grind
   rcases hout a w with⟨v,w',hr⟩|⟨w',hr⟩|⟨y,w',hr⟩
   .rw[hr]at hs ⊢;exact again v w' hs
   .rw[hr]at hs ⊢;exact again undef w' hs
   .rw[hr]at hs;cases y<;>simp only[Oper.upon]at hs
    grind
 .cases h
def Gf(P:Program)(ops:Array Oper)(Q:Exit->Act->World->Prop)(K:Act->World->Prop):List Oper->Act->World->Prop
 |[]=>K
 |o::r=>stepW P ops Q o (Gf P ops Q K r)
theorem Vy{ops:Array Oper}{Q:Exit->Act->World->Prop}:∀(l:List Oper),Gf P ops Q (Q .normal) l=wpList P ops Q l
 |[]=>rfl
 |o::r=>by rw[Gf,Vy r];rfl
theorem WC{ops:Array Oper}{Q:Exit->Act->World->Prop}(hQ:∀c a w,¬Q (.panic c) a w)(hO:¬LetsOut Q){o:Oper}{K:Act->World->Prop}(B:List Oper):
 ∀(A:List Oper)(a:Act)(w:World),(∀f∈A,passes f o=true)->Gf P ops Q K (A++o::B) a w->stepW P ops Q o (Gf P ops Q K (A++B)) a w
 |[],_,_,_,hs=>hs
 |f::A,a,w,h,hs=>by exact aie hQ hO (h f arj) (NT (λa w h'=>WC hQ hO B A a w (λf hf=>h f (ard _ hf)) h') hs)
theorem wpOp_step{ops:Array Oper}{Q:Exit->Act->World->Prop}{i:Nat}{o:Oper}(ho:ops[i]? =some o){K:Act->World->Prop}{a:Act}{w:World}:wpOp P ops Q i K a w↔stepW P ops Q o K a w:=by
 grind [wpOp,stepW]
theorem Rk{ops:Array Oper}{listed:Array Bool}(hcl:∀i j,listed.getD i false=true->((masks ops.toList []).getD i 0).testBit j=true->listed.getD j false=true){i:Nat}{o:Oper}(ho:ops[i]? =some o)
 (hi:i∈Region.ready .any ops listed) (j:Nat) (hj:((masks ops.toList []).getD i 0).testBit j=true):listed.getD j false=true:=by
 obtain⟨o',ho',hn,hall⟩:=zF.1 hi;obtain⟨e,he,hb,hej⟩:=ajv (ops:=ops.toList) (i:=i) (o:=o) (by simpa using ho) hj
 grind
theorem akv{ops:Array Oper}{Q:Exit->Act->World->Prop}(hQ:∀c a w,¬Q (.panic c) a w)(hO:¬LetsOut Q){t0:Nat}{S:Nat->Prop}
 (hfl:∀i o j f,ops[i]? =some o->ops[j]? =some f->j<i->t0<=i\/(S i/\S j)->((masks ops.toList []).getD i 0).testBit j=true\/(S j/\passes f o=true)) (hS:∀j,S j->j<t0)
 (hlt:∀i o,ops[i]? =some o->(masks ops.toList []).getD i 0<2 ^ i):
 ∀(fuel:Nat)(F:List (Nat×Oper))(l:List Oper)(k:Nat)(listed:Array Bool)(a:Act)(w:World),t0<=k->k<=ops.size->(∀j,l[j]? =ops[k+j]?)->listed.size=ops.size->
  (∀x∈F,ops[x.1]? =some x.2/\S x.1)->F.Pairwise (λx y=>x.1<y.1)->
  (∀i,i<ops.size->(listed.getD i false=true↔i<k/\∀x∈F,x.1≠i))->
  (∀i j,listed.getD i false=true->((masks ops.toList []).getD i 0).testBit j=true->listed.getD j false=true)->
  F.length+ops.size<=k+fuel->Gf P ops Q (Q .normal) (F.map (·.2)++l) a w->wpAny P .any ops Q fuel listed a w:=by
 intro fuel;have amK:∀{i:Nat}{o:Oper},ops[i]? =some o->∀e∈o.after,Region.binds .any e=true->e.on<i:=by
  intro i o ho e he hb;have aif:=adu (ops:=ops.toList) (i:=i) (o:=o) (by simpa using ho) he hb
  grind [nR]
 have al5:∀(k:Nat)(l:List Oper)(listed:Array Bool),(∀j,l[j]? =ops[k+j]?)->listed.size=ops.size->(∀i,i<ops.size->(listed.getD i false=true↔i<k/\∀x∈([]:List (Nat×Oper)),x.1≠i))->l=[]->Region.ready .any ops listed=[]:=by
  intro k l listed hl hsz hL hnil;have hend:ops.size<=k:=by
   rcases ark k ops.size with h|h
   .have:=hl 0;grind
   .exact h
  refine List.eq_nil_iff_forall_not_mem.2 λi hi=>?_
  grind [zF]
 induction fuel with
 |zero=>
  intro F l k listed a w hk hkz hl hsz hF hp hL hcl hf hw;have hk2:ops.size<=k/\F.length=0:=by omega
  obtain⟨hk2,hF0⟩:=hk2;have hFn:F=[]:=arP.1 hF0;subst hFn;have hln:l=[]:=by
   cases l with
   |nil=>rfl
   |cons o l=>have:=hl 0;grind
  subst hln;exact wpAny_done (al5 k [] listed hl hsz hL rfl) hw 0
 |succ fuel ih=>
  intro F l k listed a w hk hkz hl hsz hF hp hL hcl hf hw;have hset:∀i,i<listed.size->∀j,(listed.setIfInBounds i true).getD j false=(if j=i then true else listed.getD j false):=by
   intro i hi j;split
   · simp_all
   .next e=>exact getD_set_ne false (as5 e)
  have ajy:∀i o,ops[i]? =some o->i∈Region.ready .any ops listed->∀j m,(listed.setIfInBounds i true).getD j false=true->((masks ops.toList []).getD j 0).testBit m=true->(listed.setIfInBounds i true).getD m false=true:=by
   intro i o ho hi j m hj hm;obtain⟨hi1,_⟩:=aq6.1 ho
   grind [Rk]
  refine⟨λhnone=>?_,λi hi=>?_⟩
  .cases F with
   |cons x F=>
    exfalso;obtain⟨hx1,hx2⟩:=hF x arj;have aqN:=hS _ hx2;obtain⟨hxs,_⟩:=aq6.1 hx1;have hun:listed.getD x.1 true=false:=by
     grind
    have:x.1∈Region.ready .any ops listed:=by
     grind [zF,List.pairwise_cons]
    grind
   |nil=>
    cases l with
    |nil=>exact hw
    |cons o l=>
     exfalso;have ho:ops[k]? =some o:=by simpa using(hl 0).symm
     obtain⟨hks,_⟩:=aq6.1 ho;have hun:listed.getD k true=false:=by
      rw[JK (by omega)];cases hb:listed.getD k false with
      |false=>rfl
      |true=>have:=((hL k hks).1 hb).1;omega
     have:k∈Region.ready .any ops listed:=by refine zF.2 ⟨o,ho,hun,λe he hb=>?_⟩;have amL:=amK ho e he hb;exact(hL e.on (by omega)).2 ⟨by omega,λy hy=>by cases hy⟩
     grind
  .obtain⟨o,ho,hn,_⟩:=zF.1 hi;obtain⟨his,_⟩:=aq6.1 ho;have hun:listed.getD i false=false:=by rw[← JK (by omega)];exact hn
   have hsub:=Rk hcl ho hi;rw[wpOp_step ho];by_cases hFi:∃x∈F,x.1=i
   .obtain⟨x,hxF,rfl⟩:=hFi;obtain⟨A,B,rfl⟩:=List.append_of_mem hxF;obtain⟨hx1,hx2⟩:=hF x hxF;rw[ho]at hx1;have hxo:x.2=o:=(Option.some.inj hx1).symm;have hpA:∀y∈A,y.1<x.1:=λy hy=>(as1.1 hp).2.2 y hy x arj;have hpB:∀y∈B,x.1<y.1:=λy hy=>(ar5.1 (as1.1 hp).2.1).1 y hy;have hw2:Gf P ops Q (Q .normal) (A.map (·.2)++o::(B.map (·.2)++l)) a w:=by rw[ar6,arB,hxo,ar9]at hw;exact hw
    refine NT ?_ (WC hQ hO _ _ a w (λf hf=>?_) hw2)
    .intro a' w' h';refine ih (A++B) l k _ a' w' hk hkz hl (by simpa using hsz) (λy hy=>hF y ?_) ?_ ?_ (ajy x.1 o ho hi) ?_ (by rw[ar6,ar9];exact h')
     .rcases arH.1 hy with h|h
      .exact arS _ h
      .exact ase _ (ard _ h)
     .rw[as1]at hp ⊢;exact⟨hp.1,(ar5.1 hp.2.1).2,λy hy z hz=>hp.2.2 y hy z (ard _ hz)⟩
     .intro j hj;rw[hset x.1 (by omega)];split
      .next e=>
       subst e;refine⟨λ_=>⟨by have:=hS _ hx2;omega,λy hy=>?_⟩,λ_=>rfl⟩;rcases arH.1 hy with h|h
       .have:=hpA y h;omega
       .have:=hpB y h;omega
      .next e=>
       rw[hL j hj];refine and_congr_right λ_=>⟨λh y hy=>?_,λh y hy=>?_⟩
       .rcases arH.1 hy with h'|h'
        .exact h y (arS _ h')
        .exact h y (ase _ (ard _ h'))
       .rcases arH.1 hy with h'|h'
        .exact h y (arS _ h')
        .rcases arD.1 h' with rfl|h'
         .exactλe'=>e e'.symm
         .exact h y (ase _ h')
     .simp only[arL,arl]at hf ⊢;omega
    .obtain⟨y,hy,rfl⟩:=asb.1 hf;obtain⟨hy1,hy2⟩:=hF y (arS _ hy);obtain⟨hys,_⟩:=aq6.1 hy1;rcases hfl x.1 o y.1 y.2 ho hy1 (hpA y hy) (.inr ⟨hx2,hy2⟩)with hb|hb
     .have:=((hL y.1 hys).1 (hsub y.1 hb)).2 y (arS _ hy) rfl;exact this.elim
     .exact hb.2
   .have hge:k<=i:=by
     rcases ark i k with h|h
     .have:=(hL i his).2 ⟨h,λx hx e=>hFi ⟨x,hx,e⟩⟩;rw[hun]at this;cases this
     .exact h
    have hik:i=k:=by
     rcases ark k i with h|h
     .exfalso;have hok:∃f,ops[k]? =some f:=⟨ops[k]'(by omega),by simp⟩;obtain⟨f,hof⟩:=hok;rcases hfl i o k f ho hof h (.inl (by omega))with hb|hb
      .have:=((hL k (by omega)).1 (hsub k hb)).1;omega
      .have:=hS _ hb.1;omega
     .omega
    subst hik;cases l with
    |nil=>have:=hl 0;rw[asI,ho]at this;cases this
    |cons o' l=>
     have ho':ops[i]? =some o':=by simpa using(hl 0).symm
     rw[ho]at ho';cases ho';refine NT ?_ (WC hQ hO _ _ a w (λf hf=>?_) hw)
     .intro a' w' h';refine ih F l (i+1) _ a' w' (by omega) (by omega) (λj=>by have:=hl (j+1);simpa[Nat.add_assoc,Nat.add_comm 1 j]using this) (by simpa using hsz) hF hp ?_ (ajy i o ho hi) (by omega) h';intro j hj;rw[hset i (by omega)];split
      .next e=>subst e;exact⟨λ_=>⟨by omega,λx hx e=>hFi ⟨x,hx,e⟩⟩,λ_=>rfl⟩
      .next e=>rw[hL j hj];exact and_congr_left λ_=>by omega
     .obtain⟨y,hy,rfl⟩:=asb.1 hf;obtain⟨hy1,hy2⟩:=hF y hy;obtain⟨hys,_⟩:=aq6.1 hy1;have:=hS _ hy2;rcases hfl i o y.1 y.2 ho hy1 (by omega) (.inl hk)with hb|hb
      .exact(((hL y.1 hys).1 (hsub y.1 hb)).2 y hy rfl).elim
      .exact hb.2
end Go.Fw
namespace Go.Fw
open Go
variable {P:Program} {w0:World} {M:Nat->Prop} {T:Ext} {γ γ':Nat->Value} {st:St} {a:Act} {w w':World} {Θ:gU} {Γ:jf}
def afE:Op->Bool
 |.store _ _ _=>false
 |.call {callee:=.builtin .append,.. }|.call {callee:=.builtin .copy,.. }|.call {callee:=.builtin .clear,.. }=>false
 |_=>true
def aii(m:List Nat)(o:Oper):Bool:=match o.op,o.guard with
 |.call {callee:=.builtin .append,args,.. },none=>match args.toList with
  |.tmp t::_=>aO m t
  |_=>false
 |_,_=>false
def madeBy(m:List Nat)(o:Oper):List Nat:=match o.op,o.dst with
 |.buildSlice _ _ _,some d=>d::m
 |.call {callee:=.builtin .append,.. },some d=>d::m
 |_,_=>m
def Rl:List Nat->List Oper->Nat
 |_,[]=>0
 |m,o::r=>match afE o.op||aii m o with|true=>Rl (madeBy m o) r+1|false=>0
def Rn:List Nat->List Oper->Nat
 |_,[]=>0
 |m,o::r=>match afE o.op||(aii m o||vC o.op)with|true=>Rn (madeBy m o) r+1|false=>0
def ahk(m:List Nat)(o:Oper):List Nat:=match o.op,o.dst with
 |.call {callee:=.value (.func _),.. },some d=>d::m
 |_,_=>madeBy m o
def YW:List Nat->List Oper->Nat
 |_,[]=>0
 |m,o::r=>match afE o.op||(aii m o||vC o.op)with|true=>YW (ahk m o) r+1|false=>0
def Ro:Nat->List Oper->List (Nat×Nat)
 |_,[]=>[]
 |i,o::r=>match o.op with
  |.call {callee:=.builtin .append,args,.. }=>match args.toList with
   |.tmp t::_=>(i,t*64+1)::Ro (i+1) r
   |_=>Ro (i+1) r
  |_=>Ro (i+1) r
def ajz(R:Reg):Bool:=R.A.all λx=>match idxOf R.D (x.2 / 64) 0 with
 |some j=>(R.ms.getD x.1 0).testBit j
 |none=>false
theorem afF{e q:Nat}:∀(A:List (Nat×Nat)),Fe A e q=true->(e,q)∈A
 |[],h=>by cases h
 |(e',q')::r,h=>by
  rw[Fe]at h;split at h
  .next hb=>rw[aq5]at hb;rw[aq3 hb.1,aq3 hb.2];exact arj
  .exact ard _ (afF r h)
theorem agP{R:Reg}(h:ajz R=true)(e q:Nat)(hm:Fe R.A e q=true):∃j,idxOf R.D (q / 64) 0=some j/\(R.ms.getD e 0).testBit j=true:=by
 have:=arv.1 h _ (afF _ hm)
 grind
def Gg:Nat->List Nat->Bool
 |_,[]=>true
 |i,m::r=>Nat.beq (m+1) (2 ^ i)&&Gg (i+1) r
def ajA(t0:Nat)(ms:List Nat):List Nat:=(List.range t0).filter λj=>!((ms.drop t0).all λm=>m.testBit j)
def YX(ops:List Oper)(j i:Nat):Bool:=match ops[j]?,ops[i]? with
 |some f,some o=>passes f o
 |_,_=>false
def lateRow(ops:List Oper)(S:List Nat)(m i:Nat):Bool:=(List.range i).all λj=>m.testBit j||(aO S j&&YX ops j i)
def afG(ops:List Oper)(t0:Nat)(ms:List Nat)(S:List Nat):Bool:=
 (List.range ops.length).all λi=>match Nat.ble t0 i with
   |true=>Nat.blt (ms.getD i 0) (2 ^ i)&&lateRow ops S (ms.getD i 0) i
   |false=>match aO S i with
    |true=>S.all λj=>Nat.ble i j||((ms.getD i 0).testBit j||YX ops j i)
    |false=>true
def LZ(ops:List Oper)(t0:Nat)(ms:List Nat):Bool:=match Gg t0 (ms.drop t0)with
 |true=>true
 |false=>afG ops t0 ms (ajA t0 ms)
def front(l:List Oper):Nat:=match LZ l (Rl [] l) (masks l [])with
 |true=>Rl [] l
 |false=>match LZ l (Rn [] l) (masks l [])with|true=>Rn [] l|false=>YW [] l
def afH(l:List Oper):Bool:=l.all λo=>match o.guard with
 |some (g,_)=>match l[g]? with
  |some og=>og.dst.isSome
  |none=>false
 |none=>true
def ahl(n:Nat)(l:List Oper):Bool:=l.all λo=>match o.dst with|some d=>Nat.blt d n|none=>true
def YZ(own:Nat->Bool):List Oper->List Nat
 |[]=>[]
 |o::r=>match afc o.op,o.dst with
  |true,some d=>match own d with|true=>YZ own r|false=>d::YZ own r
  |_,_=>YZ own r
def abL(own:Nat->Bool)(l:List Oper)(s:St):St:=
 match YZ own l with
 |[]=>s
 |z=>s.freeze λo=>aO z (o / 64)&&!(Nat.beq (o%64) 0)
def Ug(d:Nat):List (Nat×Operand)->Bool
 |[]=>false
 |(_,.tmp t)::r=>Nat.beq t d||Ug d r
 |_::r=>Ug d r
def anK(l:List Oper)(d:Nat):Bool:=l.any λb=>match b.op,b.dst with
 |.build _ ps,some e=>Ug d ps.toList&&l.any λc=>match c.op with|.buildSlice _ _ qs=>Ug e qs.toList|_=>false
 |_,_=>false
def NU(l0:List Oper):List Oper->List Nat
 |[]=>[]
 |o::r=>match Uf o.op,o.dst with
  |true,some d=>match anK l0 d with|true=>d::NU l0 r|false=>NU l0 r
  |_,_=>NU l0 r
def al6(own:Nat->Bool)(l:List Oper):List Nat:=(YZ own l++NU l l).filter λd=>!((Ro 0 l).any λx=>Nat.beq x.2 (d*64+1))
def nS(n:Nat)(own:Nat->Bool)(Γ:jf)(U:List Nat)(ops:List Oper):Reg:=⟨dstsOf n 0 (ops.take (front ops)),U,masks ops [],LW Γ 0 (ops.take (front ops)),Ro 0 (ops.take (front ops)),n,al6 own (ops.take (front ops))⟩
def JE(Θ:gU)(Γ:jf)(own:Nat->Bool)(U:List Nat)(ops:List Oper)(K:St->Prop)(st:St):Prop:=
 match nodup (nS st.n own Γ U ops).D&&(ahl st.n (ops.take (front ops))&&(LZ ops (front ops) (nS st.n own Γ U ops).ms&&((nS st.n own Γ U ops).E.all (Ei (nS st.n own Γ U ops).ms (nS st.n own Γ U ops).E)&&(ajz (nS st.n own Γ U ops)&&afH ops))))with
 |true=>qx Θ Γ (nS st.n own Γ U ops) (bI (nS st.n own Γ U ops).D st) (λpath=>
   runs Θ Γ own ops K (ops.drop (front ops)) (abL own (ops.take (front ops)) (after (bI (nS st.n own Γ U ops).D st) path λ_=>true))) 0 (ops.take (front ops)) []
 |false=>False
theorem adA:∀(m:List Nat)(l:List Oper),Rl m l<=l.length
 |_,[]=>ara _
 |m,o::r=>by
  rw[Rl];split
  .have:=adA (madeBy m o) r;rw[arl];omega
  .exact arw _
theorem adB:∀(m:List Nat)(l:List Oper),Rn m l<=l.length
 |_,[]=>ara _
 |m,o::r=>by
  rw[Rn];split
  .have:=adB (madeBy m o) r;rw[arl];omega
  .exact arw _
theorem adC:∀(m:List Nat)(l:List Oper),YW m l<=l.length
 |_,[]=>ara _
 |m,o::r=>by
  rw[YW];split
  .have:=adC (ahk m o) r;rw[arl];omega
  .exact arw _
theorem akw(l:List Oper):front l<=l.length:=by
 grind [front,adA,adB,adC]
theorem ad7{l:List Oper}(h:afH l=true){i:Nat}{o:Oper}{g:Nat}{b:Bool}(ho:l[i]? =some o)(hg:o.guard=some (g,b)):∃og d,l[g]? =some og/\og.dst=some d:=by
 have:=arv.1 h o (arJ ho)
 grind [Option.isSome_iff_exists]
theorem afI{n:Nat}{l:List Oper}(h:ahl n l=true){i:Nat}{o:Oper}{d:Nat}(ho:l[i]? =some o)(hd:o.dst=some d):d<n:=by
 have:=arv.1 h o (arJ ho)
 simp_all
theorem Vz:∀{l:List Nat}{k:Nat},Gg k l=true->∀i m,l[i]? =some m->m+1=2 ^ (k+i)
 |[],_,_,i,m,hm=>by simp at hm
 |x::r,k,h,0,m,hm=>by
  grind [Gg,Nat.eq_of_beq_eq_true]
 |x::r,k,h,i+1,m,hm=>by
  rw[Gg,aq5]at h;have:=Vz h.2 i m (by simpa using hm)
  grind
theorem Rq:∀(l:List Oper)(acc:List Nat),(masks l acc).length=acc.length+l.length
 |[],acc=>by simp[masks]
 |o::r,acc=>by rw[masks,Rq r];simp;omega
theorem Y0:∀{l:List Nat},nodup l=true->∀(i j:Nat)(x:Nat),l[i]? =some x->l[j]? =some x->i=j
 |[],_,i,j,x,hi,_=>by simp at hi
 |y::r,h,i,j,x,hi,hj=>by
  rw[nodup,aq5]at h;have hno:y ∉ r:=λhm=>by have:=pR.2 hm;rw[this]at h;simp at h
  match i,j with
  |0,0=>rfl
  |0,j+1=>simp at hi hj;exact(hno (hi▸arJ hj)).elim
  |i+1,0=>simp at hi hj;exact(hno (hj▸arJ hi)).elim
  |i+1,j+1=>rw[Y0 h.2 i j x hi hj]
theorem G9{n:Nat}:∀{l:List Oper}{k:Nat},(∀(i:Nat)(o:Oper),l[i]? =some o->∃d,qI n (k+i) o=some d)->∀(i:Nat)(o:Oper)(d:Nat),l[i]? =some o->qI n (k+i) o=some d->(dstsOf n k l)[i]? =some d
 |[],_,_,i,o,d,hi,_=>by simp at hi
 |x::r,k,h,i,o,d,hi,hd=>by
  obtain⟨e,he⟩:=h 0 x rfl;rw[asI]at he;rw[dstsOf,he]
  match i with
  |0=>grind
  |i+1=>simp;exact G9 (k:=k+1) (λj o' hj=>by rw[show k+1+j=k+(j+1) by omega];simp_all) i o d (by simpa using hi) (by grind)
theorem afJ{ops:List Oper}{S:List Nat}{m i:Nat}(h:lateRow ops S m i=true){j:Nat}(hj:j<i){o f:Oper}(ho:ops[i]? =some o)(hf:ops[j]? =some f):m.testBit j=true\/(aO S j=true/\passes f o=true):=by
 have:=arv.1 h j (asK.2 hj)
 grind [YX]
theorem Pm{ops:List Oper}{t0:Nat}{ms S:List Nat}(h:afG ops t0 ms S=true){i:Nat}{o:Oper}(ho:ops[i]? =some o):
 (t0<=i->ms.getD i 0<2 ^ i)/\∀{j:Nat}{f:Oper},ops[j]? =some f->j<i->t0<=i\/(aO S i=true/\aO S j=true)->(ms.getD i 0).testBit j=true\/(aO S j=true/\passes f o=true):=by
 obtain⟨hi,_⟩:=arf.1 ho;have:=arv.1 h i (asK.2 hi)
 grind [Nat.blt_eq,afJ,Nat.ble_eq_true_of_le,pR,YX,Nat.le_of_ble_eq_true]
theorem Y3(L:Nat->Bool):∀(n:Nat),((List.range n).filter λi=>!(L i)).length=Dw L n
 |0=>rfl
 |n+1=>by
  rw[atm,List.filter_append,arL,Y3 L n,Dw];cases h:L n
  .simp[h,Nat.add_comm]
  .simp[h]
theorem afK(L:Nat->Bool){t0:Nat}(h:∀i,t0<=i->L i=false):∀(n:Nat),t0<=n->Dw L n=Dw L t0+(n-t0)
 |0,hn=>by
  grind
 |n+1,hn=>by
  rcases ark n t0 with h'|h'
  .have:t0=n+1:=by omega
   subst this;simp
  .rw[Dw,h n h',afK L h n h'];simp only;omega
structure Uh(Θ:gU)(Γ:jf)(w0:World)(M:Nat->Prop)(T:Ext)(st:St)(R:Reg)(ops:Array Oper)(t0:Nat)(listed:Array Bool)(path:List dA)(γ:Nat->Value)(a:Act)(w:World):Prop where
 way:Way R ops t0 path
 size:listed.size=ops.size
 tail:∀i,t0<=i->listed.getD i false=false
 shut:∀i j,listed.getD i false=true->((masks ops.toList []).getD i 0).testBit j=true->listed.getD j false=true
 ok:∀j o x,ops[j]? =some o->path[j]? =some x->listed.getD j false=true->oP Θ Γ R (bI R.D st) path j o x
 rel:Rel w0 M T γ (after (bI R.D st) path λi=>listed.getD i false) a w
theorem ajB{G:iQ}(hE:oO P G Θ Γ w0 M){ops:Array Oper}{Q:Exit->Act->World->Prop}(hQ:∀c a w,¬Q (.panic c) a w)(hO:¬LetsOut Q){R:Reg}{t0:Nat}{K:List dA->Prop}(ht0:t0<=ops.size)(hms:R.ms=masks ops.toList [])
 (hRn:R.n=st.n) (hDn:∀i o d,ops[i]? =some o->i<t0->o.dst=some d->d<st.n) (hgd:∀i o g b,ops[i]? =some o->i<t0->o.guard=some (g,b)->∃og d,ops[g]? =some og/\og.dst=some d) (hcmp:∀e∈R.E,Ei R.ms R.E e=true) (hEi:∀j o',ops[j]? =some o'->j<t0->wU Γ o'.op=true->j∈R.E)
 (hA:∀e q,Fe R.A e q=true->∃j,idxOf R.D (q / 64) 0=some j/\(R.ms.getD e 0).testBit j=true)
 (NS:∀ext:List dA,ext.length<=t0->WA Θ Γ R (bI R.D st) (ops.toList.take t0) ext->(ext.length=t0->K ext)/\∀o,(ops.toList.take t0)[ext.length]? =some o->Enabled Θ Γ R (bI R.D st) ext ext.length o)
 {S:Nat->Prop} (hfl:∀i o j f,ops[i]? =some o->ops[j]? =some f->j<i->t0<=i\/(S i/\S j)->((masks ops.toList []).getD i 0).testBit j=true\/(S j/\passes f o=true)) (hS:∀j,S j->j<t0)
 (hlt:∀i o,ops[i]? =some o->(masks ops.toList []).getD i 0<2 ^ i)
 (hend:∀path γ' a' w',K path->path.length=t0->Rel w0 M T γ' (after (bI R.D st) path λ_=>true) a' w'->wpList P ops Q (ops.toList.drop t0) a' w'):
 ∀(fuel:Nat)(listed:Array Bool)(path:List dA)(γ:Nat->Value)(a:Act)(w:World),Uh Θ Γ w0 M T st R ops t0 listed path γ a w->
  Dw (λi=>listed.getD i false) ops.size<=fuel->wpAny P .any ops Q fuel listed a w:=by
 have abo:(ops.toList.take t0).length=t0:=by simp;omega
 have hget:∀j o,(ops.toList.take t0)[j]? =some o↔j<t0/\ops[j]? =some o:=λj o=>by
  grind
 have fin:∀(listed:Array Bool)(path:List dA)(γ:Nat->Value)(a:Act)(w:World),Uh Θ Γ w0 M T st R ops t0 listed path γ a w->
  (∀i,i<t0->listed.getD i false=true)->wpList P ops Q (ops.toList.drop t0) a w:=by
  intro listed path γ a w I hdone;have hR:=I.rel;have hK:K path:=by refine(NS path (by rw[I.way.len];omega) λi o x hi hx=>?_).1 I.way.len;obtain⟨h1,h2⟩:=(hget i o).1 hi;exact I.ok i o x h2 hx (hdone i h1)
  have hsame:after (bI R.D st) path (λi=>listed.getD i false)=after (bI R.D st) path λ_=>true:=by
   unfold after;have:∀(l:List dA)(j:Nat),j+l.length<=t0->pick l j (λi=>listed.getD i false)=pick l j λ_=>true:=by
    intro l
    induction l with
    |nil=>intros;rfl
    |cons y l ih=>
     grind [pick]
   rw[this path 0 (by rw[I.way.len];omega)]
  rw[hsame]at hR;exact hend path γ a w hK I.way.len hR
 have step:∀(listed:Array Bool)(path:List dA)(γ:Nat->Value)(a:Act)(w:World),Uh Θ Γ w0 M T st R ops t0 listed path γ a w->∀(i:Nat)(o:Oper),ops[i]? =some o->i<t0->listed.getD i false=false->
  (∀j,((masks ops.toList []).getD i 0).testBit j=true->listed.getD j false=true)->∀(K':Act->World->Prop),
  (∀path' γ' a' w',Uh Θ Γ w0 M T st R ops t0 (listed.setIfInBounds i true) path' γ' a' w'->K' a' w')->wpOp P ops Q i K' a w:=by
  intro listed path γ a w I i o ho hit hil hsub K' hK';obtain⟨W,hsz,htl,hcl,hok,hR⟩:=I;have hen:Enabled Θ Γ R (bI R.D st) path i o:=by
   obtain⟨ext,g1,g2,g3⟩:=fill hE.toEnvB (R:=R) (base:=bI R.D st) (front:=ops.toList.take t0) (path:=path) (L:=λi=>listed.getD i false)
    (λext hc o' ho'=>(NS ext (by
      grind) hc).2 o' ho')
    (λj o' x ho' hx hL=>hok j o' x ((hget j o').1 ho').2 hx hL) (by rw[W.len,abo]) (λj k hL hk=>hcl j k hL (by grind)) i (by omega)
   have:=(NS ext (by omega) g2).2 o ((hget _ o).2 ⟨by omega,by grind⟩);rw[g1]at this;refine this.agree λj hj=>?_
   grind [nR]
  have hset:∀j,(listed.setIfInBounds i true).getD j false=(if j=i then true else listed.getD j false):=by
   intro j;split
   .next e=>subst e;simp[Array.getD,show j<listed.size by omega]
   .next e=>exact getD_set_ne false (as5 e)
  refine aku hE (L:=λi=>listed.getD i false) (L':=λj=>(listed.setIfInBounds i true).getD j false) W ht0 hit hRn hDn hgd hcmp hEi hA ho hen hok (λj k hL hk=>hcl j k hL (by grind)) (λj hj=>hsub j (by grind)) hil
   (by grind) (λj hj=>by grind) hR ?_
  intro x γ' a' w' ⟨y,hy,hxy⟩ hx hR';refine hK' (path.set i x) γ' a' w' ⟨W.set hy hxy,by simpa using hsz,?_,?_,?_,hR'⟩
  · grind
  .intro j k hj hk;rw[hset]at hj ⊢
   grind
  .intro j o' z ho' hz hL;obtain⟨aqO,_⟩:=arf.1 hy;by_cases e:j=i
   · grind
   .rw[ash (as5 e)]at hz;rw[hset,if_neg e]at hL;refine(hok j o' z ho' hz hL).agree λk hk=>?_
    grind [List.getElem?_set_ne]
 have pend:∀(F:List (Nat×Oper))(listed:Array Bool)(path:List dA)(γ:Nat->Value)(a:Act)(w:World),Uh Θ Γ w0 M T st R ops t0 listed path γ a w->
  (∀x∈F,ops[x.1]? =some x.2/\x.1<t0)->F.Pairwise (λx y=>x.1<y.1)->(∀i,i<t0->(listed.getD i false=true↔∀x∈F,x.1≠i))->
  Gf P ops Q (Q .normal) (F.map (·.2)++ops.toList.drop t0) a w:=by
  intro F
  induction F with
  |nil=>
   intro listed path γ a w I _ _ hL;rw[List.map_nil,List.nil_append,Vy]
   grind
  |cons x F ih=>
   intro listed path γ a w I hF hp hL;obtain⟨hx1,hx2⟩:=hF x arj;have hpx:=(ar5.1 hp).1;have hun:listed.getD x.1 false=false:=by
    grind
   refine(wpOp_step hx1).1 (step listed path γ a w I x.1 x.2 hx1 hx2 hun (λj hj=>?_) _ λpath' γ' a' w' I'=>?_)
   · grind [nR]
   .refine ih _ path' γ' a' w' I' (λy hy=>hF y (ard _ hy)) (ar5.1 hp).2 λi hi=>?_;have hxs:x.1<listed.size:=by rw[I.size];exact(aq6.1 hx1).1
    by_cases e:i=x.1
    .subst e;refine⟨λ_ y hy=>by have:=hpx y hy;omega,λ_=>by simp[Array.getD,hxs]⟩
    .rw[getD_set_ne false (as5 e),hL i hi];refine⟨λh y hy=>h y (ard _ hy),λh y hy=>?_⟩;rcases arD.1 hy with rfl|hy
     .exactλe'=>e e'.symm
     .exact h y hy
 have late:∀(fuel:Nat)(listed:Array Bool)(path:List dA)(γ:Nat->Value)(a:Act)(w:World),Uh Θ Γ w0 M T st R ops t0 listed path γ a w->Dw (λi=>listed.getD i false) ops.size<=fuel->
  (∀i,i<t0->¬S i->listed.getD i false=true)->wpAny P .any ops Q fuel listed a w:=by
  intro fuel listed path γ a w I hf hd;have hcount:=afK (λi=>listed.getD i false) I.tail ops.size ht0;have hlen:=Y3 (λi=>listed.getD i false) t0;have hmem:∀x,x∈((List.range t0).filter λi=>!(listed.getD i false)).map (λi=>(i,(ops[i]?).getD default))↔∃i,i<t0/\listed.getD i false=false/\(i,(ops[i]?).getD default)=x:=by intro x;simp only[asb,asH,asK,Bool.not_eq_true',and_assoc]
  have amN:∀i,i<t0->ops[i]? =some ((ops[i]?).getD default):=λi hi=>by
   have:ops[i]? =some (ops[i]'(by omega)):=by simp
   rw[this];rfl
  have alu:(((List.range t0).filter λi=>!(listed.getD i false)).map (λi=>(i,(ops[i]?).getD default))).Pairwise (λx y=>x.1<y.1):=by rw[atc];exact(List.pairwise_lt_range (n:=t0)).filter _
  refine akv hQ hO hfl hS hlt fuel (((List.range t0).filter λi=>!(listed.getD i false)).map (λi=>(i,(ops[i]?).getD default))) (ops.toList.drop t0) t0 listed a w (ara _) ht0 (λj=>by simp) I.size ?_ alu ?_ I.shut ?_ ?_
  .intro x hx;obtain⟨i,h1,h2,rfl⟩:=(hmem x).1 hx;refine⟨amN i h1,arK λhno=>?_⟩;have:=hd i h1 hno;rw[h2]at this;cases this
  .intro i hi;refine⟨λh=>⟨?_,λx hx e=>?_⟩,λ⟨h1,h2⟩=>?_⟩
   .rcases ark i t0 with h'|h'
    .exact h'
    .rw[I.tail i h']at h;cases h
   .obtain⟨j,_,h2,rfl⟩:=(hmem x).1 hx;subst e;rw[h2]at h;cases h
   .cases hb:listed.getD i false with
    |true=>rfl
    |false=>exact(h2 _ ((hmem _).2 ⟨i,h1,hb,rfl⟩) rfl).elim
  .rw[arq,hlen];omega
  .refine pend _ listed path γ a w I (λx hx=>?_) alu λi hi=>⟨λh x hx e=>?_,λh=>?_⟩
   .obtain⟨i,h1,_,rfl⟩:=(hmem x).1 hx;exact⟨amN i h1,h1⟩
   .obtain⟨j,_,h2,rfl⟩:=(hmem x).1 hx;subst e;rw[h2]at h;cases h
   .cases hb:listed.getD i false with
    |true=>rfl
    |false=>exact(h _ ((hmem _).2 ⟨i,hi,hb,rfl⟩) rfl).elim
 intro fuel
 induction fuel with
 |zero=>
  intro listed path γ a w I hf;have hall:∀i,i<ops.size->listed.getD i false=true:=afA (L:=λi=>listed.getD i false) ops.size (by omega);exact late 0 listed path γ a w I hf λi hi _=>hall i (by omega)
 |succ fuel ih=>
  intro listed path γ a w I hf;by_cases hdone:∀i,i<t0->¬S i->listed.getD i false=true
  .exact late (fuel+1) listed path γ a w I hf hdone
  .obtain⟨W,hsz,htl,hcl,hok,hR⟩:=id I;have hex:∃i,i<t0/\¬S i/\listed.getD i false=false:=by
    refine arK λhno=>hdone λi hi hn=>?_;cases hl:listed.getD i false with
    |true=>rfl
    |false=>exact(hno ⟨i,hi,hn,hl⟩).elim
   obtain⟨i1,hi1,hS1,hl1⟩:=hex;obtain⟨i0,hi0,hl0,hmin⟩:=least (p:=λi=>listed.getD i false=false) t0 ⟨i1,hi1,hl1⟩;have ajC:i0∈Region.ready .any ops listed:=by
    have hisz:i0<ops.size:=by omega
    refine zF.2 ⟨ops[i0],by simp[hisz],by rw[JK (by omega)];exact hl0,λe he hb=>?_⟩;have hoi:ops.toList[i0]? =some ops[i0]:=by simp[hisz]
    have aif:=adu hoi he hb;have amL:e.on<i0:=by
     rcases ark e.on i0 with h|h
     .exact h
     .rw[nR (hlt i0 ops[i0] (by simp[hisz])) h]at aif;cases aif
    cases hl:listed.getD e.on false with
    |true=>rfl
    |false=>exact(hmin e.on amL hl).elim
   refine⟨λh=>(by rw[h]at ajC;cases ajC),λi hi=>?_⟩;obtain⟨o,ho,hn,hall⟩:=zF.1 hi;obtain⟨hisz,_⟩:=aq6.1 ho;have hil:listed.getD i false=false:=by rw[← JK (by omega)];exact hn
   have hsub:=Rk hcl ho hi;have hit:i<t0:=by
    rcases ark i t0 with h|h
    .exact h
    .have ho1:ops[i1]? =some (ops[i1]'(by omega)):=by simp
     rcases hfl i o i1 _ ho ho1 (by omega) (.inl h)with hb|hb
     .have:=hsub i1 hb;rw[hl1]at this;cases this
     .exact(hS1 hb.1).elim
   refine step listed path γ a w I i o ho hit hil hsub _ λpath' γ' a' w' I'=>ih _ path' γ' a' w' I' ?_;have hset:∀j,(listed.setIfInBounds i true).getD j false=(if j=i then true else listed.getD j false):=by
    intro j;split
    .next e=>subst e;simp[Array.getD,show j<listed.size by omega]
    .next e=>exact getD_set_ne false (as5 e)
   have:=ahj (L:=λi=>listed.getD i false) (L':=λj=>(listed.setIfInBounds i true).getD j false) (i:=i) hil (by simp only[hset,if_true]) (λj hj=>by simp only[hset,if_neg hj]) ops.size hisz;omega
theorem VA{ops:Array Oper}{t0:Nat}(h:Gg t0 ((masks ops.toList []).drop t0)=true){i:Nat}{o:Oper}(ho:ops[i]? =some o)(hi:t0<=i):(masks ops.toList []).getD i 0+1=2 ^ i:=by
 have hml:(masks ops.toList []).length=ops.size:=by rw[Rq];simp
 have hg:((masks ops.toList []).drop t0)[i-t0]? =some ((masks ops.toList []).getD i 0):=by
  grind
 grind [Vz]
theorem ajh{G:iQ}(hE:oO P G Θ Γ w0 M)(hm:P.follows .mixedOrders=true){own:Nat->Bool}{U:List Nat}{id:Nat}{ops:Array Oper}{K:St->Prop}{Q:Exit->Act->World->Prop}(h:Rel w0 M T γ st a w)
 (hr:JE Θ Γ own U ops.toList K st) (hn:∀s γ' a' w',K s->Rel w0 M T γ' s a' w'->Q .normal a' w'):(Code.region id ops true).wp P Q a w:=by
 unfold JE at hr;split at hr
 case h_2=>exact hr.elim
 next hb=>
 rw[aq5,aq5,aq5,aq5]at hb;obtain⟨hnd,hlt,htl,hcmp,aeD⟩:=hb;rw[aq5]at aeD;obtain⟨aeD,apY⟩:=aeD;have ht0:front ops.toList<=ops.size:=by grind [akw]
 have hfl:(ops.toList.take (front ops.toList)).length=front ops.toList:=by simp;omega
 have NS:=λ(ext:List dA)(hle:ext.length<=front ops.toList)(hc:WA Θ Γ (nS st.n own Γ U ops.toList) (bI (nS st.n own Γ U ops.toList).D st) (ops.toList.take (front ops.toList)) ext)=>
  Vq (ops.toList.take (front ops.toList)) [] [] ext rfl (by omega) hr (by simpa using hc)
 simp only[List.nil_append,arI,arY,hfl]at NS;have hall:∃ext:List dA,ext.length=front ops.toList/\WA Θ Γ (nS st.n own Γ U ops.toList) (bI (nS st.n own Γ U ops.toList).D st) (ops.toList.take (front ops.toList)) ext:=by
  obtain⟨ext,g1,g2,_⟩:=fill hE.toEnvB (R:=nS st.n own Γ U ops.toList) (base:=bI (nS st.n own Γ U ops.toList).D st) (front:=ops.toList.take (front ops.toList)) (path:=List.replicate (front ops.toList) (skipped 0)) (L:=λ_=>false)
   (λext hc o' ho'=>(NS ext (by
     grind) hc).2 o' ho') (λ_ _ _ _ _ h=>by cases h) (by simp[hfl]) (λ_ _ h=>by cases h) (front ops.toList) (by omega)
  grind
 obtain⟨amO,hl0,hc0⟩:=hall;have amP:∀i,i<front ops.toList->∃o d,ops[i]? =some o/\(ops.toList.take (front ops.toList))[i]? =some o/\qI st.n i o=some d/\(nS st.n own Γ U ops.toList).ms.getD i 0<2 ^ i:=by
  intro i hi;have ho:ops[i]? =some (ops[i]'(by omega)):=by simp
  have ho2:(ops.toList.take (front ops.toList))[i]? =some (ops[i]'(by omega)):=by grind
  have hx:amO[i]? =some (amO[i]'(by omega)):=by simp
  obtain⟨h1,h2,_⟩:=hc0 i _ _ ho2 hx;exact⟨_,_,ho,ho2,h1,h2⟩
 have hdst:∀(i:Nat)(o:Oper),(ops.toList.take (front ops.toList))[i]? =some o->∃d,qI st.n (0+i) o=some d:=by
  grind
 have hbound:∀i o,ops[i]? =some o->front ops.toList<=i->(masks ops.toList []).getD i 0<2 ^ i:=by
  intro i o ho hi;unfold LZ at htl;split at htl
  .next hb=>have:=VA (show Gg _ ((masks ops.toList []).drop _)=true from hb) ho hi;omega
  .exact(Pm htl (by simpa using ho)).1 hi
 have anL:∃S:Nat->Prop,(∀i o j f,ops[i]? =some o->ops[j]? =some f->j<i->front ops.toList<=i\/(S i/\S j)->((masks ops.toList []).getD i 0).testBit j=true\/(S j/\passes f o=true))/\∀j,S j->j<front ops.toList:=by
  unfold LZ at htl;split at htl
  .next hb=>
   refine⟨λ_=>False,λi o j f ho _ hj hi=>.inl ?_,λ_ h=>h.elim⟩;rcases hi with hi|hi
   .have h1:=VA (show Gg _ ((masks ops.toList []).drop _)=true from hb) ho hi;have h2:(masks ops.toList []).getD i 0=2 ^ i-1:=by omega
    grind
   grind
  .refine⟨λj=>aO (ajA (front ops.toList) (nS st.n own Γ U ops.toList).ms) j=true,λi o j f ho hf hj hi=>?_,λj hj=>?_⟩
   .exact(Pm htl (by simpa using ho)).2 (by simpa using hf) hj hi
   .have:=pR.1 hj;exact asK.1 (asH.1 this).1
 obtain⟨S,ao7,hS⟩:=anL
 let aij:List dA:=(ops.toList.take (front ops.toList)).mapIdx λi o=>skipped ((qI st.n i o).getD 0)
 have hp0:∀(i:Nat)(x:dA),aij[i]? =some x->∃o,(ops.toList.take (front ops.toList))[i]? =some o/\qI st.n (0+i) o=some x.d:=by
  grind [skipped]
 have W0:Way (nS st.n own Γ U ops.toList) ops (front ops.toList) aij:=by
  refine⟨by grind,λi o x ho hx=>?_,λx hx=>?_,λi j x y hx hy hxy=>?_,λi x hx=>?_⟩
  .obtain⟨o',h1,h2⟩:=hp0 i x hx;obtain⟨hi,_⟩:=arf.1 h1;rw[List.getElem?_take_of_lt (by omega)]at h1;have:ops[i]? =some o':=by simpa using h1
   rw[ho]at this;cases this;rw[arY]at h2;exact h2
  .obtain⟨i,hi⟩:=asA hx;obtain⟨o',h1,h2⟩:=hp0 i x hi;exact pR.2 (YS _ 0 i h1 h2)
  .obtain⟨o1,h1,h2⟩:=hp0 i x hx;obtain⟨o2,h3,h4⟩:=hp0 j y hy;have g1:=G9 hdst i o1 x.d h1 h2;have g2:=G9 hdst j o2 y.d h3 h4;rw[← hxy]at g2;exact Y0 hnd i j x.d g1 g2
  .obtain⟨o1,h1,h2⟩:=hp0 i x hx;have:=ady _ 0 i x.d hnd (G9 hdst i o1 x.d h1 h2)
   grind
 refine Code.wp_mono (Q:=λe a' w'=>match e with|.normal=>∃s γ',K s/\Rel w0 M T γ' s a' w'|_=>False) (λe a' w' he=>?_) ?_
 · grind
 refine wp_region_any hm ?_;refine ajB (w0:=w0) (M:=M) (T:=T) hE (λ_ _ _ h=>h) (λ⟨_,_,h⟩=>h) (R:=nS st.n own Γ U ops.toList) (t0:=front ops.toList) ht0 rfl rfl ?_ (λi o g b ho _ hg=>by
  grind [ad7]) (λe he=>arv.1 hcmp e he) ?_ (agP aeD) NS ao7 hS ?_ ?_ ops.size _ aij γ _ _
  ⟨W0,by simp,?_,?_,?_,?_⟩ ?_
 .intro i o d ho hi hd;exact afI hlt (i:=i) (by grind) hd
 .intro j o' ho' hj he;have:=YV (Γ:=Γ) (ops.toList.take (front ops.toList)) 0 j o' (by grind) he;rw[arY]at this;exact this
 .intro i o ho;rcases ark i (front ops.toList)with hi|hi
  .obtain⟨_,_,_,_,_,h⟩:=amP i hi;exact h
  grind
 .intro path γ' a' w' hK _ hR;have aqB:Rel w0 M T γ' (abL own (ops.toList.take (front ops.toList)) (after (bI (nS st.n own Γ U ops.toList).D st) path λ_=>true)) a' w':=by
   unfold abL;split
   .exact hR
   .exact hR.freeze _
  grind [GV]
 .intro i _;simp[Array.getD]
 .intro i j hi;exfalso;simp[Array.getD]at hi
 .intro j o x _ _ hi;exfalso;simp[Array.getD]at hi
 .have:=(h.drew (w.drawn+1))|>λh=>akr h (nS st.n own Γ U ops.toList).D;rw[aia (λi=>by simp[Array.getD])];exact this
 .have:∀n,Dw (λi=>(Array.replicate ops.size false).getD i false) n<=n:=by
   intro n
   induction n with
   |zero=>exact ara _
   |succ n ih=>grind [Dw]
  exact this _
end Go.Fw
