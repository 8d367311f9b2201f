import Derived.Test.YtgnfgfokndjepaaDoorFwB
namespace Go.Fw
open Go
variable {P:Program} {w0:World} {M:Nat->Prop} {T:Ext} {γ γ':Nat->Value} {st:St} {a:Act} {w w':World} {Θ:bJ} {Γ:dn}
structure aQ where
 d:Nat
 v:AV
 u:List (Nat×ak)
 δ:List (Nat×ak)
 k:List Nat
def mg(acc:List Nat):List Edge->Nat
 |[]=>0
 |e::r=>match Region.binds .any e with
  |true=>(2 ^ e.on|||acc.getD e.on 0)|||mg acc r
  |false=>mg acc r
def masks:List Oper->List Nat->List Nat
 |[],acc=>acc
 |o::r,acc=>masks r (acc++[mg acc o.after.toList])
def pick:List aQ->Nat->(Nat->Bool)->List aQ
 |[],_,_=>[]
 |x::r,j,m=>match m j with|true=>x::pick r (j+1) m|false=>pick r (j+1) m
def jO:List aQ->Nat->AV->AV
 |[],_,b=>b
 |x::r,t,b=>match Nat.beq t x.d with|true=>x.v|false=>jO r t b
def lookO:List aQ->Nat->Option ak->Option ak
 |[],_,b=>b
 |x::r,o,b=>match look x.δ o with|some y=>some y|none=>lookO r o b
def gQ:List aQ->Nat->Option ak
 |[],_=>none
 |x::r,o=>match gQ r o with|some y=>some y|none=>look x.u o
def dQ(base:St)(l:List aQ):St:=
 {n:=base.n,tmps:=λt=>jO l t (base.tmps t),af:=λo=>match gQ l o with|some y=>some y|none=>lookO l o (base.af o)}
def gy:List aQ->List Nat
 |[]=>[]
 |x::r=>x.k++gy r
def iP(l:List Nat)(st:St):St:=match l with|[]=>st|l=>st.kill (ax l)
def after(base:St)(path:List aQ)(m:Nat->Bool):St:=iP (gy (pick path 0 m)) (dQ base (pick path 0 m))
def Cell.touch(S:Nat->Bool):Cell->Bool
 |.ref o=>S o
 |_=>false
def SV.touch(S:Nat->Bool):SV->Bool
 |.one c=>c.touch S
 |.agg cs=>cs.any (Cell.touch S)
def AV.touch(S:Nat->Bool):AV->Bool
 |.undef=>false
 |.sv v=>v.touch S
 |.dO vs=>vs.any (SV.touch S)
 |.bF o _=>S o
 |.dV o _ _=>S o
 |.win o _ _=>S o
 |.fZ _ _ _ _=>false
 |.bI cs _=>cs.any (Cell.touch S)
 |.fn _ caps=>caps.any λcs=>cs.any (Cell.touch S)
def ak.touch(S:Nat->Bool):ak->Bool
 |.var cs=>cs.any (Cell.touch S)
 |.arr _ _ _ _=>false
def St.En(st:St)(L:List Nat):St:=match L with
 |[]=>st
 |L=>{n:=st.n,tmps:=λt=>match (st.tmps t).touch (ax L)with|true=>.undef|false=>st.tmps t,
      af:=λo=>match ax L o with|true=>none|false=>match st.af o with|some x=>(match x.touch (ax L)with|true=>none|false=>some x)|none=>none}
def Gm(ms:List Nat)(i:Nat):List (Nat×Nat)->List Nat
 |[]=>[]
 |(e,q)::r=>match Nat.beq e i||((ms.getD i 0).testBit e||(ms.getD e 0).testBit i)with|true=>Gm ms i r|false=>q::Gm ms i r
def qh:List (Nat×Nat)->Nat->Nat->Bool
 |[],_,_=>false
 |(e,q)::r,i,o=>match Nat.beq e i&&Nat.beq q o with|true=>true|false=>qh r i o
def Aj:Op->Bool
 |.call {callee:=.builtin .append,.. }=>true
 |_=>false
def jU:Op->Bool
 |.store _ _ _=>true
 |_=>false
def jl(n i:Nat)(o:Oper):Option Nat:=match o.dst with
 |some d=>some d
 |none=>match jU o.op with|true=>some (n+i)|false=>none
def dstsOf(n:Nat):Nat->List Oper->List Nat
 |_,[]=>[]
 |i,o::r=>match jl n i o with|some d=>d::dstsOf n (i+1) r|none=>dstsOf n (i+1) r
def nodup:List Nat->Bool
 |[]=>true
 |x::r=>!(ax r x)&&nodup r
def aG(D:List Nat)(st:St):St:=st.kill λo=>ax D (o / 64)
def mX(d:Nat)(δ:List (Nat×ak)):Bool:=δ.all λx=>Nat.beq (x.1 / 64) d
def St.hide(st:St)(U:List Nat):St:={st with af:=λo=>match ax U o with|true=>none|false=>st.af o}
def kM(Γ:dn)(o:Op):Bool:=match o with
 |.call {callee:=.value (.func f),.. }=>match Γ f with|some (.eff _ _)=>true|_=>false
 |.store _ _ _=>true
 |_=>false
def wu(Γ:dn):Nat->List Oper->List Nat
 |_,[]=>[]
 |i,o::r=>match kM Γ o.op with|true=>i::wu Γ (i+1) r|false=>wu Γ (i+1) r
def pz(ms:List Nat)(E:List Nat)(i:Nat):Bool:=E.all λe=>Nat.beq e i||((ms.getD i 0).testBit e||(ms.getD e 0).testBit i)
def jm(st:St)(m:Mode)(x:AV):Option (Arg×Option Nat):=
 match m with
 |.val=>match fF st [x]with
  |some [a]=>some (a,none)
  |_=>none
 |m=>iC st m x
def jV(st:St):List Mode->List AV->Option (List Arg×List (Option Nat))
 |_,[]=>some ([],[])
 |ms,x::xs=>match jm st (ms.headD .val) x,jV st ms.tail xs with
  |some (a,o),some (as,os)=>some (a::as,o::os)
  |_,_=>none
def Arg.UK:Arg->Bool
 |.own _ _ _=>false
 |_=>true
def wz(Γ:dn)(st:St):Op->Option (Prop×uY×(List (Option Nat)×Bool))
 |.call {callee:=.value (.func f),args,.. }=>match Γ f with
  |some (.eff ms con)=>match jV st ms (handed st args.toList [])with
   |some (vs,os)=>match oP (nM ms (handed st args.toList []))||vs.all Arg.UK with
    |true=>match con vs with
     |some (p,ρ)=>some (p,ρ,(os,!(oP (nM ms (handed st args.toList [])))))
     |none=>none
    |false=>none
   |none=>none
  |_=>none
 |_=>none
def tX(Θ:bJ)(st:St):Op->Option (List (Nat×ak))
 |.store t p x=>match st.ev x,Θ t,st.ev p with
  |.sv v,some ti,.bF o off=>match Nat.beq v.cells.length ti.cells.len,st.af o with
   |true,some (.var cs)=>match Nat.ble (off+v.cells.length) cs.length with
    |true=>some [(o,.var (splice cs off v.cells))]
    |false=>none
   |_,_=>none
  |_,_,_=>none
 |_=>none
def NW(D U:List Nat)(υ:List (Nat×ak)):Bool:=υ.all λy=>ax U y.1&&!(ax D (y.1 / 64))
def zu:List (Option Nat)->List Eff->Bool
 |[],_=>true
 |none::os,au=>zu os au.tail
 |some _::os,au=>match au.head? with|some (.var _)=>zu os au.tail|_=>false
def pF(D U:List Nat)(d:Nat)(st:St)(os:List (Option Nat)×Bool)(out:Out)(au:List Eff):Option (AV×List (Nat×ak)×List (Nat×ak)):=
 match jP os.1&&(qI au (out.take (d*64+1)).2&&(zu os.1 au&&(mX d (out.take (d*64+1)).2&&(!os.2||(out.made&&sZ au))))),eX st os.1 au with
 |true,some υ=>match υ.all λy=>ax U y.1&&!(ax D (y.1 / 64))with
  |true=>some ((out.take (d*64+1)).1,υ,(out.take (d*64+1)).2)
  |false=>none
 |_,_=>none
structure Reg where
 D:List Nat
 U:List Nat
 ms:List Nat
 E:List Nat
 A:List (Nat×Nat)
 n:Nat
 F:List Nat
def eP(F:List Nat)(x:aQ):aQ:=match ax F x.d,x.v,x.u,x.δ with
 |true,.sv (.one (.ref q)),[],[(q',.arr e r l fr)]=>match Nat.beq q q' with
  |true=>⟨x.d,.sv (.one (.sl e r l fr)),[],[],x.k⟩
  |false=>x
 |_,_,_,_=>x
theorem fV(F:List Nat)(x:aQ):(eP F x).d=x.d/\(eP F x).u=x.u/\(eP F x).k=x.k/\∀y∈(eP F x).δ,y∈x.δ:=by
 grind [eP]
def idxOf:List Nat->Nat->Nat->Option Nat
 |[],_,_=>none
 |x::r,t,j=>match Nat.beq t x with|true=>some j|false=>idxOf r t (j+1)
def CS(R:Reg)(i t:Nat):Bool:=match idxOf R.D t 0 with
 |some j=>!(Nat.beq j i||((R.ms.getD i 0).testBit j||(R.ms.getD j 0).testBit i))
 |none=>false
def St.veil(st:St)(R:Reg)(i:Nat):St:={st with tmps:=λt=>match CS R i t with|true=>.undef|false=>st.tmps t}
def viewAt(R:Reg)(base:St)(acc:List aQ)(i:Nat):St:=
 ((match pz R.ms R.E i with
 |true=>after base acc (R.ms.getD i 0).testBit
 |false=>(after base acc (R.ms.getD i 0).testBit).hide R.U).veil R i).En (Gm R.ms i R.A)
def sG(Θ:bJ)(Γ:dn)(R:Reg)(base:St)(i:Nat)(o:Oper)(d:Nat)(acc:List aQ)(K:List aQ->Prop):Prop:=
 match kM Γ o.op with
 |true=>match jU o.op with
  |true=>match tX Θ (viewAt R base acc i) o.op with
   |some υ=>match NW R.D R.U υ with
    |true=>K (acc++[⟨d,.dO [],υ,[],[]⟩])
    |false=>False
   |none=>False
  |false=>match wz Γ (viewAt R base acc i) o.op with
   |some (p,ρ,os)=>p/\∀t,ρ.R t->match pF R.D R.U d (viewAt R base acc i) os (ρ.out t) (ρ.au t)with
    |some (v,υ,δ)=>K (acc++[⟨d,v,υ,δ,[]⟩])
    |none=>False
   |none=>False
 |false=>match Aj o.op with
  |true=>match nO Θ (viewAt R base acc i) o.op with
   |some (p,q,x)=>match ax R.D (q / 64)&&(!(Nat.beq (q / 64) d)&&qh R.A i q)with
    |true=>p/\K (acc++[eP R.F ⟨d,.sv (.one (.ref (d*64+1))),[],[(d*64+1,x)],[q]⟩])
    |false=>False
   |none=>False
  |false=>match calm Θ Γ d (viewAt R base acc i) o.op with
   |some (p,v,δ)=>match mX d δ,quiet (viewAt R base acc i) o.op with
    |true,true=>K (acc++[eP R.F ⟨d,v,[],δ,[]⟩])
    |true,false=>p/\K (acc++[eP R.F ⟨d,v,[],δ,[]⟩])
    |false,_=>False
   |none=>False
def fix(g:Nat)(b:Bool)(acc:List aQ):List aQ:=
 match acc[g]? with
 |some x=>acc.set g {x with v:=.sv (.one (.bool b))}
 |none=>acc
def skipped(d:Nat):aQ:=⟨d,.dO [],[],[],[]⟩
def je(Θ:bJ)(Γ:dn)(R:Reg)(base:St)(K:List aQ->Prop):Nat->List Oper->List aQ->Prop
 |_,[],acc=>K acc
 |i,o::r,acc=>match jl R.n i o,Nat.blt (R.ms.getD i 0) (2 ^ i)with
  |some d,true=>match o.guard with
   |none=>sG Θ Γ R base i o d acc (je Θ Γ R base K (i+1) r)
   |some (g,b)=>match (R.ms.getD i 0).testBit g,acc[g]? with
    |true,some x=>match x.v with
     |.sv (.one (.bool c))=>cond c
      (match b with
        |true=>sG Θ Γ R base i o d (fix g true acc) (je Θ Γ R base K (i+1) r)
        |false=>je Θ Γ R base K (i+1) r (fix g true acc++[skipped d]))
      (match b with
        |false=>sG Θ Γ R base i o d (fix g false acc) (je Θ Γ R base K (i+1) r)
        |true=>je Θ Γ R base K (i+1) r (fix g false acc++[skipped d]))
     |.dO _=>je Θ Γ R base K (i+1) r (acc++[skipped d])
     |_=>False
    |_,_=>False
  |_,_=>False
def Wanted(R:Reg)(path:List aQ)(i:Nat)(o:Oper):Prop:=
 o.guard=none\/∃g b y,o.guard=some (g,b)/\(R.ms.getD i 0).testBit g=true/\path[g]? =some y/\y.v=.sv (.one (.bool b))
def CU(R:Reg)(path:List aQ)(i:Nat)(o:Oper):Prop:=
 ∃g b y,o.guard=some (g,b)/\(R.ms.getD i 0).testBit g=true/\path[g]? =some y/\((∃c,y.v=.sv (.one (.bool c))/\c≠b)\/∃vs,y.v=.dO vs)
def iF(Θ:bJ)(Γ:dn)(R:Reg)(base:St)(path:List aQ)(i:Nat)(o:Oper)(x:aQ):Prop:=
 jl R.n i o=some x.d/\(R.ms.getD i 0)<2 ^ i/\
 ((Wanted R path i o/\
    ((kM Γ o.op=false/\Aj o.op=false/\∃p v δ,calm Θ Γ x.d (viewAt R base path i) o.op=some (p,v,δ)/\p/\mX x.d δ=true/\x=eP R.F ⟨x.d,v,[],δ,[]⟩)\/
     (kM Γ o.op=false/\Aj o.op=true/\∃p q y,nO Θ (viewAt R base path i) o.op=some (p,q,y)/\p/\(ax R.D (q / 64)=true/\q / 64≠x.d/\qh R.A i q=true)/\
       x=eP R.F ⟨x.d,.sv (.one (.ref (x.d*64+1))),[],[(x.d*64+1,y)],[q]⟩)\/
     (kM Γ o.op=true/\jU o.op=true/\∃υ,tX Θ (viewAt R base path i) o.op=some υ/\NW R.D R.U υ=true/\x=⟨x.d,.dO [],υ,[],[]⟩)\/
     ((kM Γ o.op=true/\jU o.op=false)/\x.k=[]/\∃p ρ os t,wz Γ (viewAt R base path i) o.op=some (p,ρ,os)/\p/\ρ.R t/\
        (∀t,ρ.R t->∃r,pF R.D R.U x.d (viewAt R base path i) os (ρ.out t) (ρ.au t)=some r)/\
        pF R.D R.U x.d (viewAt R base path i) os (ρ.out t) (ρ.au t)=some (x.v,x.u,x.δ))))\/
  (CU R path i o/\x=skipped x.d))
def Enabled(Θ:bJ)(Γ:dn)(R:Reg)(base:St)(path:List aQ)(i:Nat)(o:Oper):Prop:=
 ∃d,jl R.n i o=some d/\(R.ms.getD i 0)<2 ^ i/\
 ((Wanted R path i o/\
    ((kM Γ o.op=false/\Aj o.op=false/\∃p v δ,calm Θ Γ d (viewAt R base path i) o.op=some (p,v,δ)/\p/\mX d δ=true)\/
     (kM Γ o.op=false/\Aj o.op=true/\∃p q y,nO Θ (viewAt R base path i) o.op=some (p,q,y)/\p/\(ax R.D (q / 64)=true/\q / 64≠d/\qh R.A i q=true))\/
     (kM Γ o.op=true/\jU o.op=true/\∃υ,tX Θ (viewAt R base path i) o.op=some υ/\NW R.D R.U υ=true)\/
     ((kM Γ o.op=true/\jU o.op=false)/\∃p ρ os,wz Γ (viewAt R base path i) o.op=some (p,ρ,os)/\p/\
        ∀t,ρ.R t->∃r,pF R.D R.U d (viewAt R base path i) os (ρ.out t) (ρ.au t)=some r)))\/
  CU R path i o)
theorem J8{g:Nat}{b:Bool}{acc:List aQ}{x:aQ}(h:acc[g]? =some x)(hv:x.v=.sv (.one (.bool b))):fix g b acc=acc:=by
 unfold fix;rw[h];obtain⟨hlt,hx⟩:=Y8.1 h;refine ZL λi=>?_;by_cases hi:i=g
 .cases x
  grind
 grind
theorem Hz:∀(l:List aQ)(j:Nat)(m:Nat->Bool),(∀i,j<=i->m i=false)->pick l j m=[]
 |[],_,_,_=>rfl
 |x::r,j,m,h=>by rw[pick,h j (Zg _)];exact Hz r (j+1) m λi hi=>h i (by omega)
theorem vG(r:List aQ)(m:Nat->Bool):∀(l:List aQ)(j:Nat),pick (l++r) j m=pick l j m++pick r (j+l.length) m
 |[],j=>by simp[pick]
 |x::l,j=>by rw[ZO,pick,pick,vG r m l (j+1),Y0,show j+1+l.length=j+(l.length+1) by omega];cases m j<;>rfl
theorem rU{m:Nat->Bool}:∀(l l':List aQ)(j:Nat),(∀i,m (j+i)=true->l[i]? =l'[i]?)->pick l j m=pick l' j m
 |[],[],_,_=>rfl
 |[],y::r,j,h=>by
  cases hm:m j with
  |true=>have:=h 0 (by simpa using hm);simp at this
  |false=>
   rw[pick,pick,hm];exact rU [] r (j+1) λi hi=>by have:=h (i+1) (by rw[show j+(i+1)=j+1+i by omega];exact hi);simpa using this
 |x::l,[],j,h=>by
  cases hm:m j with
  |true=>have:=h 0 (by simpa using hm);simp at this
  |false=>
   rw[pick,pick,hm];exact rU l [] (j+1) λi hi=>by have:=h (i+1) (by rw[show j+(i+1)=j+1+i by omega];exact hi);simpa using this
 |x::l,y::r,j,h=>by
  have ih:=rU l r (j+1) λi hi=>by have:=h (i+1) (by rw[show j+(i+1)=j+1+i by omega];exact hi);grind
  rw[pick,pick];cases hm:m j with
  |true=>have:=h 0 (by simpa using hm);grind
  |false=>exact ih
theorem fH{m:Nat->Bool}{x:aQ}:∀(l:List aQ)(j:Nat),x∈pick l j m↔∃i,m (j+i)=true/\l[i]? =some x
 |[],j=>by simp[pick]
 |y::l,j=>by
  have ih:=fH (m:=m) (x:=x) l (j+1);rw[pick];cases hm:m j with
  |true=>
   simp only[Zl,ih];constructor
   .rintro(rfl|⟨i,h1,h2⟩)
    .exact⟨0,by simpa using hm,rfl⟩
    .exact⟨i+1,by grind,by simpa using h2⟩
   grind
  |false=>
   simp only[ih];constructor
   .rintro⟨i,h1,h2⟩;exact⟨i+1,by grind,by simpa using h2⟩
   grind
theorem gU{m i j:Nat}(h:m<2 ^ i)(hj:i<=j):m.testBit j=false:=
 Nat.testBit_lt_two_pow (Zc h (Nat.pow_le_pow_right (by decide) hj))
theorem tY{R:Reg}{base:St}{l l':List aQ}{i:Nat}(h:∀j,(R.ms.getD i 0).testBit j=true->l[j]? =l'[j]?):viewAt R base l i=viewAt R base l' i:=by
 grind [viewAt,after,rU]
theorem iF.agree{R:Reg}{base:St}{l l':List aQ}{i:Nat}{o:Oper}{x:aQ}(h:∀j,(R.ms.getD i 0).testBit j=true->l[j]? =l'[j]?)(hr:iF Θ Γ R base l i o x):iF Θ Γ R base l' i o x:=by
 obtain⟨h1,h2,h3⟩:=hr;refine⟨h1,h2,?_⟩;rw[← tY h];refine h3.imp (And.imp (Or.imp id ?_) id) (And.imp ?_ id)
 · grind
 .rintro⟨g,b,y,e1,e2,e3,e4⟩;exact⟨g,b,y,e1,e2,h g e2▸e3,e4⟩
theorem Enabled.agree{R:Reg}{base:St}{l l':List aQ}{i:Nat}{o:Oper}(h:∀j,(R.ms.getD i 0).testBit j=true->l[j]? =l'[j]?)(hr:Enabled Θ Γ R base l i o):Enabled Θ Γ R base l' i o:=by
 obtain⟨d,h1,h2,h3⟩:=hr;refine⟨d,h1,h2,?_⟩;rw[← tY h];refine h3.imp (And.imp (Or.imp id ?_) id) ?_
 · grind
 .rintro⟨g,b,y,e1,e2,e3,e4⟩;exact⟨g,b,y,e1,e2,h g e2▸e3,e4⟩
theorem iQ{l:List Nat}{x:Nat}:ax l x=true↔x∈l:=by
 induction l with
 |nil=>simp[ax]
 |cons y l ih=>
  rw[ax,Zl];cases hb:Nat.beq x y with
  |true=>simp_all
  |false=>
   simp only[ih];constructor
   .exact .inr
   .rintro(rfl|h)
    .simp at hb
    .exact h
theorem Eo{n:Nat}{o:Oper}{d:Nat}:∀(l:List Oper)(i j:Nat),l[j]? =some o->jl n (i+j) o=some d->d∈dstsOf n i l
 |[],_,_,ho,_=>by simp at ho
 |x::r,i,0,ho,hd=>by
  grind [dstsOf]
 |x::r,i,j+1,ho,hd=>by
  have:=Eo r (i+1) j (by simpa using ho) (by rw[show i+1+j=i+(j+1) by omega];exact hd);rw[dstsOf];split
  .exact Y5 _ this
  .exact this
def CV(Θ:bJ)(Γ:dn)(R:Reg)(base:St)(ops:List Oper)(path:List aQ):Prop:=
 ∀i o x,ops[i]? =some o->path[i]? =some x->iF Θ Γ R base path i o x
theorem NY{acc ext:List aQ}{j:Nat}(h:j<acc.length):(acc++ext)[j]? =acc[j]? :=ZT h
theorem BA{R:Reg}{base:St}{K:List aQ->Prop}:∀(rest pre:List Oper)(acc ext:List aQ),acc.length=pre.length->ext.length<=rest.length->
 je Θ Γ R base K pre.length rest acc->CV Θ Γ R base (pre++rest) (acc++ext)->
 (ext.length=rest.length->K (acc++ext))/\∀o,rest[ext.length]? =some o->Enabled Θ Γ R base (acc++ext) (pre.length+ext.length) o
 |[],pre,acc,ext,hl,hle,hr,hc=>by
  simp_all [je]
 |o::rest,pre,acc,ext,hl,hle,hr,hc=>by
  rw[je]at hr;split at hr
  case h_2=>exact hr.elim
  next d hd hm=>
  have hm':R.ms.getD pre.length 0<2 ^ pre.length:=by simp_all
  have key:(Wanted R acc pre.length o/\sG Θ Γ R base pre.length o d acc (je Θ Γ R base K (pre.length+1) rest))\/
   (CU R acc pre.length o/\je Θ Γ R base K (pre.length+1) rest (acc++[skipped d])):=by
   split at hr
   .next hg=>exact .inl ⟨.inl hg,hr⟩
   .next g b hg=>
    split at hr
    .next x hbit hx=>
     split at hr
     .next c hc'=>
      cases c
      .simp only[cond_false,J8 hx hc']at hr;cases b
       .exact .inl ⟨.inr ⟨g,false,x,hg,hbit,hx,hc'⟩,hr⟩
       .exact .inr ⟨⟨g,true,x,hg,hbit,hx,.inl ⟨false,hc',by simp⟩⟩,hr⟩
      .simp only[cond_true,J8 hx hc']at hr;cases b
       .exact .inr ⟨⟨g,false,x,hg,hbit,hx,.inl ⟨true,hc',by simp⟩⟩,hr⟩
       .exact .inl ⟨.inr ⟨g,true,x,hg,hbit,hx,hc'⟩,hr⟩
     .next vs hc'=>exact .inr ⟨⟨g,b,x,hg,hbit,hx,.inr ⟨vs,hc'⟩⟩,hr⟩
     grind
    grind
  have PN:∀ext:List aQ,∀j,(R.ms.getD pre.length 0).testBit j=true->acc[j]? =(acc++ext)[j]? :=by
   grind [gU]
  cases ext with
  |nil=>
   refine⟨λh=>by simp at h,λo' ho'=>?_⟩;have:o'=o:=by grind
   subst this;rw[ZJ];simp only[Y4,aaB];refine⟨d,hd,hm',?_⟩;rcases key with⟨hw,hs⟩|⟨hw,_⟩
   .refine .inl ⟨hw,?_⟩;unfold sG at hs;split at hs
    · grind
    grind [Nat.beq_refl,wY]
   grind
  |cons x ext=>
   have hx:iF Θ Γ R base (acc++x::ext) pre.length o x:=by
    refine hc pre.length o x ?_ ?_
    · grind
    grind
   obtain⟨e1,_,e3⟩:=hx;have hxd:x.d=d:=by grind
   have VR:viewAt R base acc pre.length=viewAt R base (acc++x::ext) pre.length:=tY (PN _);have hnext:je Θ Γ R base K (pre.length+1) rest (acc++[x]):=by
    rcases key with⟨hw,hs⟩|⟨hw,hs⟩
    .rcases e3 with⟨_,e3⟩|⟨⟨g,b,y,f1,f2,f3,f4⟩,_⟩
     .rw[← VR,hxd]at e3;unfold sG at hs;rcases e3 with⟨he,ha,p,v,δ,hcalm,_,hn,hxx⟩|⟨he,ha,p,q,y,happ,_,_,hxx⟩|⟨he,hst,υ,hυ,hin,hxx⟩|⟨⟨he,hst⟩,hk,p,ρ,os,t,hrel,_,ht,_,hres⟩
      .rw[he,ha]at hs;simp only[hcalm]at hs;split at hs
       · grind
       · grind
       grind
      · grind
      · grind
      .rw[he,hst]at hs;simp only[hrel]at hs;have h2:=hs.2 t ht;simp only[hres]at h2;have ex:x=⟨d,x.v,x.u,x.δ,[]⟩:=by cases x;grind
       grind
     .exfalso;rw[← PN _ g f2]at f3;rcases hw with hw|⟨g',b',y',k1,k2,k3,k4⟩
      · grind
      grind
    .rcases e3 with⟨hw',_⟩|⟨_,f1⟩
     .exfalso;obtain⟨g,b,y,k1,k2,k3,k4⟩:=hw;rcases hw' with hw'|⟨g',b',y',l1,l2,l3,l4⟩
      · grind
      grind
     grind
   have ih:=BA rest (pre++[o]) (acc++[x]) ext (by simp[hl]) (by simpa using hle) (by simpa using hnext) (by simpa using hc);simp only[ZM,List.singleton_append,Y7,Y0,Y4]at ih;refine⟨λh=>ih.1 (by simpa using h),λo' ho'=>?_⟩;have:=ih.2 o' (by simpa using ho');rw[show pre.length+(0+1)+ext.length=pre.length+(ext.length+1) by omega]at this;omega
theorem nX(acc:List Nat)(j:Nat):∀(es:List Edge),(mg acc es).testBit j=true↔∃e∈es,Region.binds .any e=true/\(e.on=j\/(acc.getD e.on 0).testBit j=true)
 |[]=>by simp[mg]
 |e::r=>by
  rw[mg];cases hb:Region.binds .any e with
  |false=>
   simp only[nX acc j r,Zl];constructor
   .rintro⟨e',h1,h2⟩;exact⟨e',.inr h1,h2⟩
   .rintro⟨e',rfl|h1,h2⟩
    .rw[hb]at h2;cases h2.1
    .exact⟨e',h1,h2⟩
  |true=>
   simp only[Nat.testBit_or,aad,nX acc j r,Zl,Nat.testBit_two_pow,Zi];constructor
   .rintro((h|h)|⟨e',h1,h2⟩)
    .exact⟨e,.inl rfl,hb,.inl h⟩
    .exact⟨e,.inl rfl,hb,.inr h⟩
    .exact⟨e',.inr h1,h2⟩
   .rintro⟨e',rfl|h1,h2⟩
    .exact .inl h2.2
    .exact .inr ⟨e',h1,h2⟩
theorem xC:∀(l:List Oper)(acc:List Nat)(i:Nat),i<acc.length->(masks l acc).getD i 0=acc.getD i 0
 |[],_,_,_=>rfl
 |o::r,acc,i,h=>by rw[masks,xC r _ i (by simp;omega)];simp[Zq,ZT h]
theorem xE:∀(l:List Oper)(acc:List Nat)(i:Nat)(o:Oper),l[i]? =some o->∃acc',(masks l acc).getD (acc.length+i) 0=mg acc' o.after.toList/\
 (∀j,j<acc'.length->(masks l acc).getD j 0=acc'.getD j 0)
 |[],_,_,_,h=>by simp at h
 |o::r,acc,0,o',h=>by
  refine⟨acc,?_,λj hj=>?_⟩
  · grind [masks,xC]
  grind [xC]
 |o::r,acc,i+1,o',h=>by
  obtain⟨acc',h1,h2⟩:=xE r (acc++[mg acc o.after.toList]) i o' (by simpa using h)
  grind [masks]
theorem HY{ops:List Oper}{i:Nat}{o:Oper}(ho:ops[i]? =some o){e:Edge}(he:e∈o.after)(hb:Region.binds .any e=true):((masks ops []).getD i 0).testBit e.on=true:=by
 obtain⟨acc',h1,_⟩:=xE ops [] i o ho
 grind [nX]
theorem PO{ops:List Oper}{i:Nat}{o:Oper}(ho:ops[i]? =some o){j:Nat}(hj:((masks ops []).getD i 0).testBit j=true):
 ∃e∈o.after,Region.binds .any e=true/\(e.on=j\/((masks ops []).getD e.on 0).testBit j=true):=by
 obtain⟨acc',h1,h2⟩:=xE ops [] i o ho
 grind [nX]
def oJ(L:Nat->Bool):Nat->Nat
 |0=>0
 |n+1=>(match L n with|true=>0|false=>1)+oJ L n
theorem H6{L L':Nat->Bool}:∀(n:Nat),(∀i,i<n->L i=L' i)->oJ L n=oJ L' n
 |0,_=>rfl
 |n+1,h=>by rw[oJ,oJ,h n (by omega),H6 n λi hi=>h i (by omega)]
theorem MJ{L L':Nat->Bool}{i:Nat}(hi:L i=false)(hi':L' i=true)(h:∀j,j≠i->L' j=L j):∀(n:Nat),i<n->oJ L' n+1=oJ L n
 |0,hn=>by omega
 |n+1,hn=>by
  rw[oJ,oJ];by_cases e:n=i
  · grind [H6]
  .have:=MJ hi hi' h n (by omega)
   grind
theorem J9{L:Nat->Bool}:∀(n:Nat),oJ L n=0->∀i,i<n->L i=true
 |0,_,i,hi=>by omega
 |n+1,h,i,hi=>by
  rw[oJ]at h;cases hl:L n with
  |false=>grind
  |true=>
   by_cases e:i=n
   · grind
   .exact J9 n (by omega) i (by omega)
theorem least{p:Nat->Prop}[DecidablePred p]:∀(n:Nat),(∃i,i<n/\p i)->∃i,i<n/\p i/\∀j,j<i->¬p j:=by
 intro n
 induction n using Nat.strongRecOn with
 |_ n ih=>
  rintro⟨i,hi,hp⟩;by_cases h:∃j,j<i/\p j
  · grind
  grind
structure Fits(D U:List Nat)(l:List aQ):Prop where
 one:∀x∈l,∀y∈l,x.d=y.d->x=y
 mem:∀x∈l,ax D x.d=true
 new:∀x∈l,mX x.d x.δ=true
 upd:∀x∈l,∀o y,look x.u o=some y->ax U o=true/\ax D (o / 64)=false
theorem iR{d:Nat}{δ:List (Nat×ak)}(h:mX d δ=true){o:Nat}{y:ak}(hl:look δ o=some y):o / 64=d:=
 YX (Ze.1 h _ (jL δ o y hl))
theorem Ep{t:Nat}{b:AV}:∀(l:List aQ),(∀x∈l,x.d≠t)->jO l t b=b
 |[],_=>rfl
 |x::r,h=>by
  rw[jO];have:Nat.beq t x.d=false:=by
   cases hb:Nat.beq t x.d with
   |false=>rfl
   |true=>exact(h x Y6 (YX hb).symm).elim
  rw[this];exact Ep r λy hy=>h y (Y5 _ hy)
theorem zx{b:AV}{x:aQ}:∀(l:List aQ),x∈l->(∀y∈l,x.d=y.d->x=y)->jO l x.d b=x.v
 |[],h,_=>by cases h
 |y::r,h,hu=>by
  rw[jO];cases hb:Nat.beq x.d y.d with
  |true=>simp_all
  |false=>
   rcases Zl.1 h with rfl|h
   .simp at hb
   .exact zx r h λz hz=>hu z (Y5 _ hz)
theorem rV{o:Nat}{b:Option ak}:∀(l:List aQ),(∀x∈l,look x.δ o=none)->lookO l o b=b
 |[],_=>rfl
 |x::r,h=>by rw[lookO,h x Y6];exact rV r λy hy=>h y (Y5 _ hy)
theorem H7{o:Nat}{b:Option ak}{x:aQ}{z:ak}:∀(l:List aQ),x∈l->look x.δ o=some z->(∀y∈l,∀z',look y.δ o=some z'->x=y)->lookO l o b=some z
 |[],h,_,_=>by cases h
 |y::r,h,hz,hu=>by
  rw[lookO];cases hy:look y.δ o with
  |some z'=>have:=hu y Y6 z' hy;subst this;rw[hz]at hy;exact hy.symm
  |none=>
   rcases Zl.1 h with rfl|h
   .rw[hz]at hy;cases hy
   .exact H7 r h hz λw hw=>hu w (Y5 _ hw)
theorem pG{o:Nat}:∀(l:List aQ),(∀x∈l,look x.u o=none)->gQ l o=none
 |[],_=>rfl
 |x::r,h=>by rw[gQ,pG r λy hy=>h y (Y5 _ hy)];exact h x Y6
theorem tZ{o:Nat}(r:List aQ):∀(l:List aQ),gQ (l++r) o=match gQ r o with|some y=>some y|none=>gQ l o
 |[]=>by grind [gQ]
 |x::l=>by rw[ZO,gQ,tZ r l,gQ];cases gQ r o<;>rfl
theorem BB{o:Nat}{m m':Nat->Bool}:∀(l:List aQ)(j:Nat),(∀i x,l[i]? =some x->x.u≠[]->m (j+i)=m' (j+i))->gQ (pick l j m) o=gQ (pick l j m') o
 |[],_,_=>rfl
 |x::r,j,h=>by
  have ih:=BB (o:=o) (m:=m) (m':=m') r (j+1) (λi y hi hy=>by
   have:=h (i+1) y (by simpa using hi) hy
   grind)
  have h0:=h 0 x rfl;rw[pick,pick];cases hm:m j<;>cases hm':m' j
  .exact ih
  · grind [gQ,look]
  · grind [gQ,look]
  grind [gQ]
theorem BD{x:aQ}{t:Nat}{b:AV}(r:List aQ):∀(l:List aQ),(∀y∈l,y.d≠x.d)->jO (l++x::r) t b=match Nat.beq t x.d with|true=>x.v|false=>jO (l++r) t b
 |[],_=>by grind [jO]
 |y::l,h=>by
  rw[ZO,ZO,jO,BD r l λz hz=>h z (Y5 _ hz),jO];cases hb:Nat.beq t y.d with
  |false=>rfl
  |true=>
   have:Nat.beq t x.d=false:=by
    cases hb2:Nat.beq t x.d with
    |false=>rfl
    |true=>exact(h y Y6 ((YX hb).symm.trans (YX hb2))).elim
   rw[this]
theorem BF{x:aQ}{o:Nat}{b:Option ak}(r:List aQ):∀(l:List aQ),(∀y∈l,∀z z',look y.δ o=some z->look x.δ o=some z'->False)->
 lookO (l++x::r) o b=match look x.δ o with|some y=>some y|none=>lookO (l++r) o b
 |[],_=>by grind [lookO]
 |y::l,h=>by
  rw[ZO,ZO,lookO,BF r l λz hz=>h z (Y5 _ hz),lookO];cases hy:look y.δ o with
  |none=>rfl
  |some z=>
   cases hx:look x.δ o with
   |none=>rfl
   |some z'=>exact(h y Y6 z z' hy hx).elim
theorem LG{base:St}{D U:List Nat}{l r:List aQ}{x:aQ}(hf:Fits D U (l++x::r))(hne:∀y∈l++r,y.d≠x.d)(hu:x.u≠[]->∀y∈r,y.u=[]):
 (((dQ base (l++r)).adds x.u).adds x.δ).set x.d x.v=dQ base (l++x::r):=by
 have hx:x∈l++x::r:=by simp
 have hsub:∀y∈l++r,y∈l++x::r:=λy hy=>by
  grind
 have e1:(((dQ base (l++r)).adds x.u).adds x.δ).set x.d x.v={n:=base.n,tmps:=λt=>match Nat.beq t x.d with|true=>x.v|false=>jO (l++r) t (base.tmps t),af:=(((dQ base (l++r)).adds x.u).adds x.δ).af}:=by rw[Ac,Ac (dQ base (l++r)) x.u];rfl
 rw[e1];congr 1
 · grind [BD]
 · funext o
   rw[iY,iY];have hO:=BF (x:=x) (o:=o) (b:=base.af o) r l λy hy z z' hz hz'=>hne y (Zv _ hy) ((iR (hf.new y (hsub y (Zv _ hy))) hz).symm.trans (iR (hf.new x hx) hz'));have hU:gQ (l++x::r) o=match look x.u o with|some y=>some y|none=>gQ (l++r) o:=by
    rw[tZ,tZ,gQ];by_cases hxu:x.u=[]
    · grind [look]
    .rw[pG r λy hy=>by rw[hu hxu y hy];rfl]
   rw[hO,hU];cases hδ:look x.δ o with
   |none=>cases look x.u o<;>rfl
   |some z=>
    have hod:ax D (o / 64)=true:=by rw[iR (hf.new x hx) hδ];exact hf.mem x hx
    have XW:∀y∈l++x::r,look y.u o=none:=λy hy=>by
     cases hl:look y.u o with
     |none=>rfl
     |some w=>have:=(hf.upd y hy o w hl).2;grind
    grind [pG]
theorem iT{o:Nat}:∀(l:List aQ),ax (gy l) o=true↔∃x∈l,o∈x.k
 |[]=>by simp[gy,ax]
 |x::r=>by
  rw[iQ,gy,ZI,← iQ (l:=gy r),iT r];constructor
  .rintro(h|⟨y,hy,h⟩)
   .exact⟨x,Y6,h⟩
   .exact⟨y,Y5 _ hy,h⟩
  .rintro⟨y,hy,h⟩;rcases Zl.1 hy with rfl|hy
   .exact .inl h
   .exact .inr ⟨y,hy,h⟩
theorem Cell.jW{S:Nat->Bool}(h:∀o,S o=false):∀(c:Cell),c.kill S=c
 |.int _ _|.bool _|.str _|.nil|.sl _ _ _ _|.junk=>rfl
 |.ref o=>by grind [Cell.kill]
theorem Cell.gZ{S S' S2:Nat->Bool}(h:∀o,S2 o=(S o||S' o)):∀(c:Cell),(c.kill S).kill S'=c.kill S2
 |.int _ _|.bool _|.str _|.nil|.sl _ _ _ _|.junk=>rfl
 |.ref o=>by
  grind [Cell.kill]
theorem lV{S S' S2:Nat->Bool}(h:∀o,S2 o=(S o||S' o))(cs:List Cell):(cs.map (Cell.kill S)).map (Cell.kill S')=cs.map (Cell.kill S2):=by
 rw[aae]
 grind [List.map_congr_left,Cell.gZ]
theorem SV.gZ{S S' S2:Nat->Bool}(h:∀o,S2 o=(S o||S' o)):∀(c:SV),(c.kill S).kill S'=c.kill S2
 |.one c=>by grind [SV.kill,Cell.gZ]
 |.agg cs=>by simp only[SV.kill,lV h]
theorem AV.gZ{S S' S2:Nat->Bool}(h:∀o,S2 o=(S o||S' o)):∀(c:AV),(c.kill S).kill S'=c.kill S2
 |.undef=>rfl
 |.sv v=>by grind [AV.kill,SV.gZ]
 |.dO vs=>by
  simp only[AV.kill];rw[aae,List.map_congr_left λc _=>(show((SV.kill S') ∘ (SV.kill S)) c=SV.kill S2 c from SV.gZ h c)]
 |.bF o off=>by
  grind [AV.kill]
 |.dV o i off=>by
  grind [AV.kill]
 |.win o i off=>by
  grind [AV.kill]
 |.fZ _ _ _ _=>rfl
 |.bI cs off=>by simp only[AV.kill,lV h]
 |.fn g caps=>by simp only[AV.kill];rw[aae,List.map_congr_left λc _=>(show((List.map (Cell.kill S')) ∘ (List.map (Cell.kill S))) c=List.map (Cell.kill S2) c from lV h c)]
theorem ak.gZ{S S' S2:Nat->Bool}(h:∀o,S2 o=(S o||S' o)):∀(c:ak),(c.kill S).kill S'=c.kill S2
 |.var cs=>by simp only[ak.kill,lV h]
 |.arr _ _ _ _=>rfl
theorem St.gZ{S S' S2:Nat->Bool}(h:∀o,S2 o=(S o||S' o))(st:St):(st.kill S).kill S'=st.kill S2:=by
 simp only[St.kill,St.mk.injEq,aar];refine⟨funext λt=>AV.gZ h _,funext λo=>?_⟩;simp only[h o];cases S' o with
 |true=>cases S o<;>rfl
 |false=>
  cases S o with
  |true=>rfl
  |false=>
   cases st.af o with
   |none=>rfl
   |some y=>grind [ak.gZ]
theorem nY{S:Nat->Bool}(h:∀o,S o=false)(cs:List Cell):cs.map (Cell.kill S)=cs:=by rw[show Cell.kill S=id from funext (Cell.jW h),aai]
theorem SV.jW{S:Nat->Bool}(h:∀o,S o=false):∀(c:SV),c.kill S=c
 |.one c=>by grind [SV.kill,Cell.jW]
 |.agg cs=>by grind [SV.kill,nY]
theorem AV.jW{S:Nat->Bool}(h:∀o,S o=false):∀(c:AV),c.kill S=c
 |.undef=>rfl
 |.sv v=>by grind [AV.kill,SV.jW]
 |.dO vs=>by simp only[AV.kill];rw[show SV.kill S=id from funext (SV.jW h),aai]
 |.bF o off=>by grind [AV.kill]
 |.dV o i off=>by grind [AV.kill]
 |.win o i off=>by grind [AV.kill]
 |.fZ _ _ _ _=>rfl
 |.bI cs off=>by grind [AV.kill,nY]
 |.fn g caps=>by simp only[AV.kill];rw[show List.map (Cell.kill S)=id from funext (nY h),aai]
theorem ak.jW{S:Nat->Bool}(h:∀o,S o=false):∀(c:ak),c.kill S=c
 |.var cs=>by grind [ak.kill,nY]
 |.arr _ _ _ _=>rfl
theorem St.jW{S:Nat->Bool}(h:∀o,S o=false)(st:St):st.kill S=st:=by
 cases st with
 |mk n t o=>
  simp only[St.kill,St.mk.injEq,aar];refine⟨funext λq=>AV.jW h _,funext λq=>?_⟩;simp only[h q];cases o q with
  |none=>rfl
  |some y=>grind [ak.jW]
theorem fJ(l:List Nat)(st:St):iP l st=st.kill (ax l):=by
 cases l with
 |nil=>exact(St.jW (λ_=>rfl) st).symm
 |cons=>rfl
theorem Rel.iP(h:Rel w0 M T γ st a w)(l:List Nat):Rel w0 M T γ (iP l st) a w:=by rw[fJ];exact h.kill _
theorem Cell.jo{X:V}{S:Nat->Bool}(h:∀o,S o=true->X.af o=none):∀(c:Cell)(v:Value),ay X c v->c.kill S=c
 |.int _ _,_,_|.bool _,_,_|.str _,_,_|.nil,_,_|.sl _ _ _ _,_,_|.junk,_,_=>rfl
 |.ref o,v,⟨⟨e,r,l,fr,ho⟩,_⟩=>by
  grind [Cell.kill]
theorem jX{X:V}{S:Nat->Bool}(h:∀o,S o=true->X.af o=none):∀(cs:List Cell)(vs:List Value),ah X cs vs->cs.map (Cell.kill S)=cs
 |[],[],_=>rfl
 |c::cs,v::vs,H=>by rw[Zh,Cell.jo h c v H.1,jX h cs vs H.2]
 |[],_::_,H|_::_,[],H=>by cases H
theorem SV.jo{X:V}{S:Nat->Bool}(h:∀o,S o=true->X.af o=none):∀(c:SV)(v:Value),aP X c v->c.kill S=c
 |.one c,v,H=>by rw[SV.kill,Cell.jo h c v H]
 |.agg cs,v,⟨vs,_,H⟩=>by grind [SV.kill,jX]
theorem zy{X:V}{S:Nat->Bool}(h:∀o,S o=true->X.af o=none):∀(cs:List SV)(vs:List Value),aN X cs vs->cs.map (SV.kill S)=cs
 |[],[],_=>rfl
 |c::cs,v::vs,H=>by rw[Zh,SV.jo h c v H.1,zy h cs vs H.2]
 |[],_::_,H|_::_,[],H=>by cases H
theorem yh{X:V}{S:Nat->Bool}(h:∀o,S o=true->X.af o=none):∀(l:List (List Cell))(us:List Value),aV X l us->l.map (List.map (Cell.kill S))=l
 |[],[],_=>rfl
 |cs::l,u::us,⟨⟨b,_,arr,t,fz,_,_,H⟩,H2⟩=>by rw[Zh,jX h cs _ H,yh h l us H2]
 |[],_::_,H|_::_,[],H=>by cases H
theorem AV.jo{X:V}{S:Nat->Bool}(h:∀o,S o=true->X.af o=none):∀(c:AV)(v:Value),aA X c v->c.kill S=c
 |.undef,_,_=>rfl
 |.sv x,v,H=>by rw[AV.kill,SV.jo h x v H]
 |.dO xs,v,⟨vs,_,H⟩=>by grind [AV.kill,zy]
 |.bF o off,v,⟨b,cs,ho,_⟩=>by
  grind [AV.kill]
 |.dV o i off,v,⟨b,n,cap,e,r,l,fr,ho,_⟩=>by
  grind [AV.kill]
 |.win o i off,v,⟨b,n,cap,e,r,l,fr,ho,_⟩=>by
  grind [AV.kill]
 |.fZ _ _ _ _,_,_=>rfl
 |.bI cs off,v,⟨b,_,arr,t,fz,_,_,H⟩=>by grind [AV.kill,jX]
 |.fn f caps,v,⟨us,_,H⟩=>by grind [AV.kill,yh]
theorem ak.jo{X:V}{S:Nat->Bool}(h:∀o,S o=true->X.af o=none){o:Nat}:∀(x:ak),aB X o x->x.kill S=x
 |.var cs,⟨b,ar,t,_,_,H⟩=>by grind [ak.kill,jX]
 |.arr _ _ _ _,_=>rfl
theorem Cell.iU{S S' H:Nat->Bool}(h1:∀o,S o=true->S' o=true)(h2:∀o,S' o=true->S o=true\/H o=true):∀(c:Cell),(c.kill S).touch H=false->c.kill S'=c.kill S
 |.int _ _,_|.bool _,_|.str _,_|.nil,_|.sl _ _ _ _,_|.junk,_=>rfl
 |.ref o,ht=>by
  simp only[Cell.kill]at ht ⊢;cases hs:S o with
  |true=>rw[h1 o hs]
  |false=>
   rw[hs]at ht;have ht:H o=false:=ht
   grind
theorem jq{S S' H:Nat->Bool}(h1:∀o,S o=true->S' o=true)(h2:∀o,S' o=true->S o=true\/H o=true):∀(cs:List Cell),(cs.map (Cell.kill S)).any (Cell.touch H)=false->cs.map (Cell.kill S')=cs.map (Cell.kill S)
 |[],_=>rfl
 |c::cs,ht=>by rw[Zh,List.any_cons,aao]at ht;rw[Zh,Zh,Cell.iU h1 h2 c ht.1,jq h1 h2 cs ht.2]
theorem SV.iU{S S' H:Nat->Bool}(h1:∀o,S o=true->S' o=true)(h2:∀o,S' o=true->S o=true\/H o=true):∀(c:SV),(c.kill S).touch H=false->c.kill S'=c.kill S
 |.one c,ht=>by simp only[SV.kill];rw[Cell.iU h1 h2 c ht]
 |.agg cs,ht=>by simp only[SV.kill];rw[jq h1 h2 cs ht]
theorem wB{S S' H:Nat->Bool}(h1:∀o,S o=true->S' o=true)(h2:∀o,S' o=true->S o=true\/H o=true):∀(cs:List SV),(cs.map (SV.kill S)).any (SV.touch H)=false->cs.map (SV.kill S')=cs.map (SV.kill S)
 |[],_=>rfl
 |c::cs,ht=>by rw[Zh,List.any_cons,aao]at ht;rw[Zh,Zh,SV.iU h1 h2 c ht.1,wB h1 h2 cs ht.2]
theorem uO{S S' H:Nat->Bool}(h1:∀o,S o=true->S' o=true)(h2:∀o,S' o=true->S o=true\/H o=true):∀(l:List (List Cell)),((l.map (List.map (Cell.kill S))).any λcs=>cs.any (Cell.touch H))=false->l.map (List.map (Cell.kill S'))=l.map (List.map (Cell.kill S))
 |[],_=>rfl
 |c::cs,ht=>by rw[Zh,List.any_cons,aao]at ht;rw[Zh,Zh,jq h1 h2 c ht.1,uO h1 h2 cs ht.2]
theorem AV.iU{S S' H:Nat->Bool}(h1:∀o,S o=true->S' o=true)(h2:∀o,S' o=true->S o=true\/H o=true):∀(c:AV),(c.kill S).touch H=false->c.kill S'=c.kill S
 |.undef,_=>rfl
 |.sv v,ht=>by simp only[AV.kill];rw[SV.iU h1 h2 v ht]
 |.dO vs,ht=>by simp only[AV.kill];rw[wB h1 h2 vs ht]
 |.bF o off,ht=>by
  simp only[AV.kill]at ht ⊢;cases hs:S o with
  |true=>rw[h1 o hs]
  |false=>
   rw[hs]at ht;have ht:H o=false:=ht
   grind
 |.dV o i off,ht=>by
  simp only[AV.kill]at ht ⊢;cases hs:S o with
  |true=>rw[h1 o hs]
  |false=>
   rw[hs]at ht;have ht:H o=false:=ht
   grind
 |.win o i off,ht=>by
  simp only[AV.kill]at ht ⊢;cases hs:S o with
  |true=>rw[h1 o hs]
  |false=>
   rw[hs]at ht;have ht:H o=false:=ht
   grind
 |.fZ _ _ _ _,_=>rfl
 |.bI cs off,ht=>by simp only[AV.kill];rw[jq h1 h2 cs ht]
 |.fn g caps,ht=>by simp only[AV.kill];rw[uO h1 h2 caps ht]
theorem ak.iU{S S' H:Nat->Bool}(h1:∀o,S o=true->S' o=true)(h2:∀o,S' o=true->S o=true\/H o=true):∀(c:ak),(c.kill S).touch H=false->c.kill S'=c.kill S
 |.var cs,ht=>by simp only[ak.kill];rw[jq h1 h2 cs ht]
 |.arr _ _ _ _,_=>rfl
theorem NZ{v s:St}{lv lp hd:List Nat}(h:v.more s)(h1:∀o,ax lv o=true->ax lp o=true)(h2:∀o,ax lp o=true->ax lv o=true\/ax hd o=true):
 ((iP lv v).En hd).more (iP lp s):=by
 have hc:∀(s:St),s.En hd={n:=s.n,tmps:=(λt=>match (s.tmps t).touch (ax hd)with|true=>.undef|false=>s.tmps t),af:=(λo=>match ax hd o with|true=>none|false=>match s.af o with|some x=>(match x.touch (ax hd)with|true=>none|false=>some x)|none=>none)}:=by
  intro s;cases hd with
  |cons=>rfl
  |nil=>
   have t0:∀c:Cell,c.touch (ax [])=false:=λc=>by cases c<;>rfl
   have t1:∀cs:List Cell,cs.any (Cell.touch (ax []))=false:=λcs=>by grind
   have t2:∀c:SV,c.touch (ax [])=false:=λc=>by cases c with|one c=>exact t0 c|agg cs=>exact t1 cs
   have t3:∀c:AV,c.touch (ax [])=false:=λc=>by
    cases c with
    |sv v=>exact t2 v
    |dO vs=>show vs.any (SV.touch (ax []))=false;grind
    |bI cs off=>exact t1 cs
    |fn g caps=>show(caps.any λcs=>cs.any (Cell.touch (ax [])))=false;grind
    |_=>rfl
   have t4:∀c:ak,c.touch (ax [])=false:=λc=>by cases c with|var cs=>exact t1 cs|arr _ _ _ _=>rfl
   cases s with
   |mk n t o=>
    simp only[St.En,St.mk.injEq,aar]
    grind [ax]
 rw[hc,fJ,fJ];refine⟨λt=>?_,λo y hy=>?_⟩
 .dsimp only[St.kill];cases ht:((v.tmps t).kill (ax lv)).touch (ax hd)with
  |true=>exact .inl rfl
  |false=>
   rcases h.tmps t with e|e
   .rw[e];exact .inl rfl
   grind [AV.iU]
 .dsimp only[St.kill]at hy ⊢;split at hy
  .cases hy
  .next hh=>
   split at hy
   .next x hx=>
    split at hx
    .cases hx
    .next hl=>
     cases XY:v.af o with
     |none=>grind
     |some y0=>
      split at hy
      .cases hy
      .next ht=>
       have hlp:ax lp o=false:=by
        grind
       rw[hlp,h.af o _ XY]
       grind [ak.iU]
   .cases hy
theorem N7{base:St}{D U:List Nat}{path:List aQ}{L L':Nat->Bool}{i:Nat}{x:aQ}(hi:i<path.length)(hL:L i=false)(hL':L' i=true)(h:∀j,j≠i->L' j=L j)
 (hf:Fits D U (pick (path.set i x) 0 L')) (hne:∀y∈pick path 0 L,y.d≠x.d) (hu:x.u≠[]->∀j y,i<j->L j=true->path[j]? =some y->y.u=[]):
 (((dQ base (pick path 0 L)).adds x.u).adds x.δ).set x.d x.v=dQ base (pick (path.set i x) 0 L')/\(∀o,ax (gy (pick (path.set i x) 0 L')) o=(ax (gy (pick path 0 L)) o||ax x.k o)):=by
 have hsplit:path=path.take i++path[i]::path.drop (i+1):=by simp_all
 have p1:pick path 0 L=pick (path.take i) 0 L++pick (path.drop (i+1)) (i+1) L:=by
  grind [vG,pick]
 have Yr:∀(l:List aQ)(j:Nat),(∀k,k<l.length->j+k≠i)->pick l j L'=pick l j L:=by
  intro l
  induction l with
  |nil=>intros;rfl
  |cons y l ih=>intro j hj;rw[pick,pick,h j (by simpa using hj 0 (by simp)),ih (j+1) λk hk=>by have:=hj (k+1) (by simpa using hk);omega]
 have p2:pick (path.set i x) 0 L'=pick (path.take i) 0 L++x::pick (path.drop (i+1)) (i+1) L:=by
  grind [vG,pick]
 rw[p2]at hf;rw[p1]at hne;rw[p1,p2];refine⟨?_,λo=>?_⟩
 case refine_2=>
  grind [iT,iQ]
 refine LG hf hne λhxu y hy=>?_
 grind [fH]
theorem N8{base:St}{D U:List Nat}{path:List aQ}{L L':Nat->Bool}{i:Nat}{x:aQ}(hi:i<path.length)(hL:L i=false)(hL':L' i=true)(h:∀j,j≠i->L' j=L j)
 (hf:Fits D U (pick (path.set i x) 0 L')) (hne:∀y∈pick path 0 L,y.d≠x.d) (hu:x.u≠[]->∀j y,i<j->L j=true->path[j]? =some y->y.u=[])
 (hv:x.v.kill (ax (gy (pick (path.set i x) 0 L')))=x.v)
 (hxo:∀o y,(look x.δ o=some y\/look x.u o=some y)->ax (gy (pick (path.set i x) 0 L')) o=false/\y.kill (ax (gy (pick (path.set i x) 0 L')))=y):
 (((iP x.k (after base path L)).adds x.u).adds x.δ).set x.d x.v=after base (path.set i x) L':=by
 obtain⟨e1,e2⟩:=N7 (base:=base) hi hL hL' h hf hne hu;have e3:iP x.k (after base path L)=(dQ base (pick path 0 L)).kill (ax (gy (pick (path.set i x) 0 L'))):=by
  grind [after,fJ,St.gZ]
 rw[e3];unfold after;rw[fJ,← e1];have f1:∀s:St,((s.adds x.u).adds x.δ)={s with af:=((s.adds x.u).adds x.δ).af}:=λs=>by grind [Ac]
 simp only[St.set,St.kill,St.mk.injEq,aar]
 grind [iY]
theorem N9{base:St}{path:List aQ}{L:Nat->Bool}(hL:∀i,L i=false):after base path L=base:=by unfold after;rw[Hz path 0 L λi _=>hL i];rfl
theorem QL(h:Rel w0 M T γ st a w)(D:List Nat):Rel w0 M T γ (aG D st) a w:=h.kill _
theorem H8{D:List Nat}{o:Nat}(h:ax D (o / 64)=true):(aG D st).af o=none:=by simp[aG,St.kill,h]
theorem Oa{R:Reg}{path:List aQ}{L:Nat->Bool}{i:Nat}(hf:Fits R.D R.U (pick path 0 L))(hsub:∀j,(R.ms.getD i 0).testBit j=true->L j=true)
 (hidx:∀k x,path[k]? =some x->idxOf R.D x.d 0=some k) (hi:L i=false) (hdown:∀k,L k=true->(R.ms.getD k 0).testBit i=false)
 (heff:pz R.ms R.E i=true->∀j x,path[j]? =some x->x.u≠[]->L j=true->(R.ms.getD i 0).testBit j=true):
 ((match pz R.ms R.E i with
   |true=>dQ (aG R.D st) (pick path 0 (R.ms.getD i 0).testBit)
   |false=>(dQ (aG R.D st) (pick path 0 (R.ms.getD i 0).testBit)).hide R.U).veil R i).more (dQ (aG R.D st) (pick path 0 L)):=by
 have hmem:∀x∈pick path 0 (R.ms.getD i 0).testBit,x∈pick path 0 L:=λx hx=>by
  grind [fH]
 have ht:∀t,CS R i t=false->jO (pick path 0 L) t ((aG R.D st).tmps t)=jO (pick path 0 (R.ms.getD i 0).testBit) t ((aG R.D st).tmps t):=by
  grind [zx,Ep,fH,CS,Nat.eq_of_beq_eq_true]
 have hO:∀o y,lookO (pick path 0 (R.ms.getD i 0).testBit) o ((aG R.D st).af o)=some y->lookO (pick path 0 L) o ((aG R.D st).af o)=some y:=by
  intro o y hy;by_cases he:∃x∈pick path 0 (R.ms.getD i 0).testBit,∃z,look x.δ o=some z
  .obtain⟨x,hx,z,hz⟩:=he;have Yt:∀w∈pick path 0 L,∀z',look w.δ o=some z'->x=w:=λw hw z' hz'=>
    hf.one x (hmem x hx) w hw ((iR (hf.new x (hmem x hx)) hz).symm.trans (iR (hf.new w hw) hz'))
   grind [H7]
  .have hno:∀x∈pick path 0 (R.ms.getD i 0).testBit,look x.δ o=none:=λx hx=>by
    cases hl:look x.δ o with
    |none=>rfl
    |some z=>grind
   rw[rV _ hno]at hy;rw[rV,hy];intro x hx;cases hl:look x.δ o with
   |none=>rfl
   |some z=>rw[H8 (by rw[iR (hf.new x hx) hl];exact hf.mem x hx)]at hy;cases hy
 have hsame:∀o y,gQ (pick path 0 (R.ms.getD i 0).testBit) o=gQ (pick path 0 L) o->(dQ (aG R.D st) (pick path 0 (R.ms.getD i 0).testBit)).af o=some y->(dQ (aG R.D st) (pick path 0 L)).af o=some y:=by
  grind [dQ]
 have SX:∀s:St,(∀t,s.tmps t=jO (pick path 0 (R.ms.getD i 0).testBit) t ((aG R.D st).tmps t))->(∀o y,s.af o=some y->(dQ (aG R.D st) (pick path 0 L)).af o=some y)->(s.veil R i).more (dQ (aG R.D st) (pick path 0 L)):=by
  intro s h1 h2;refine⟨λt=>?_,h2⟩;show(match CS R i t with|true=>AV.undef|false=>s.tmps t)=.undef\/_=(match CS R i t with|true=>AV.undef|false=>s.tmps t);cases hh:CS R i t with
  |true=>exact .inl rfl
  |false=>right;rw[h1 t];exact ht t hh
 split
 .next hc=>
  refine SX _ (λt=>rfl) λo y hy=>hsame o y ?_ hy
  grind [BB]
 .next hc=>
  refine SX _ (λt=>rfl) λo y hy=>?_;unfold St.hide at hy;dsimp only at hy;split at hy
  .cases hy
  .next hU=>
   have XW:∀x∈pick path 0 L,look x.u o=none:=λx hx=>by
    cases hl:look x.u o with
    |none=>rfl
    |some z=>have:=(hf.upd x hx o z hl).1;grind
   grind [pG]
theorem PS(st:St)(U:List Nat)(S:Nat->Bool):(st.kill S).hide U=(st.hide U).kill S:=by
 simp only[St.hide,St.kill,St.mk.injEq,aar]
 grind
theorem PU(st:St)(R:Reg)(i:Nat)(S:Nat->Bool):(st.kill S).veil R i=(st.veil R i).kill S:=by
 simp only[St.veil,St.kill,St.mk.injEq,aar,and_true]
 funext t
 cases CS R i t<;>rfl
theorem Ko{ms:List Nat}{i e q:Nat}(MK:e≠i)(h1:(ms.getD i 0).testBit e=false)(h2:(ms.getD e 0).testBit i=false):∀(A:List (Nat×Nat)),qh A e q=true->ax (Gm ms i A) q=true
 |[],h=>by cases h
 |(e',q')::r,h=>by
  rw[qh]at h;rw[Gm];cases hb:Nat.beq e' e&&Nat.beq q' q with
  |true=>
   rw[YZ]at hb;rw[YX hb.1,YX hb.2,h1,h2,qJ MK];simp[ax,ZH]
  |false=>
   rw[hb]at h;have ih:=Ko MK h1 h2 r h;split
   .exact ih
   .rw[ax,ih];split<;>rfl
theorem LH{R:Reg}{path:List aQ}{L:Nat->Bool}{i:Nat}(hf:Fits R.D R.U (pick path 0 L))(hsub:∀j,(R.ms.getD i 0).testBit j=true->L j=true)
 (hidx:∀k x,path[k]? =some x->idxOf R.D x.d 0=some k) (hi:L i=false) (hdown:∀k,L k=true->(R.ms.getD k 0).testBit i=false)
 (heff:pz R.ms R.E i=true->∀j x,path[j]? =some x->x.u≠[]->L j=true->(R.ms.getD i 0).testBit j=true)
 (hk:∀e x,path[e]? =some x->L e=true->∀q∈x.k,qh R.A e q=true):
 (viewAt R (aG R.D st) path i).more (after (aG R.D st) path L):=by
 have h0:=Oa (st:=st) hf hsub hidx hi hdown heff;have e:viewAt R (aG R.D st) path i=(iP (gy (pick path 0 (R.ms.getD i 0).testBit)) ((match pz R.ms R.E i with
  |true=>dQ (aG R.D st) (pick path 0 (R.ms.getD i 0).testBit)
  |false=>(dQ (aG R.D st) (pick path 0 (R.ms.getD i 0).testBit)).hide R.U).veil R i)).En (Gm R.ms i R.A):=by
  grind [viewAt,after,fJ,PS,PU]
 rw[e];refine NZ h0 (λo ho=>?_) λo ho=>?_
 · grind [iT,fH]
 grind [iT,fH,Ko]
theorem H9:∀(l:List Nat)(j i d:Nat),nodup l=true->l[i]? =some d->idxOf l d j=some (j+i)
 |[],_,_,_,_,h=>by simp at h
 |x::r,j,0,d,_,h=>by
  grind [idxOf,Nat.beq_refl]
 |x::r,j,i+1,d,hn,h=>by
  rw[nodup,YZ]at hn;have hne:Nat.beq d x=false:=by
   grind [Nat.eq_of_beq_eq_true,iQ]
  rw[idxOf,hne,show j+(i+1)=j+1+i by omega];exact H9 r (j+1) i d hn.2 (by simpa using h)
end Go.Fw
namespace Go.Fw
open Go
variable {P:Program} {w0:World} {M:Nat->Prop} {T:Ext} {γ γ':Nat->Value} {st s:St} {a:Act} {w w':World} {Θ:bJ} {Γ:dn}
theorem Cell.jY{S:Nat->Bool}(h:∀o,S o=false):∀(c:Cell),c.kill S=c
 |.ref o=>by grind [Cell.kill]
 |.int _ _|.bool _|.str _|.nil|.sl _ _ _ _|.junk=>rfl
theorem nZ{S:Nat->Bool}(h:∀o,S o=false)(cs:List Cell):cs.map (Cell.kill S)=cs:=by rw[show Cell.kill S=id from funext (Cell.jY h),aai]
theorem SV.jY{S:Nat->Bool}(h:∀o,S o=false):∀(c:SV),c.kill S=c
 |.one c=>by grind [SV.kill,Cell.jY]
 |.agg cs=>by grind [SV.kill,nZ]
theorem AV.jY{S:Nat->Bool}(h:∀o,S o=false):∀(c:AV),c.kill S=c
 |.undef=>rfl
 |.sv v=>by grind [AV.kill,SV.jY]
 |.dO vs=>by simp only[AV.kill];rw[show SV.kill S=id from funext (SV.jY h),aai]
 |.bF o off=>by grind [AV.kill]
 |.dV o i off=>by grind [AV.kill]
 |.win o i off=>by grind [AV.kill]
 |.fZ _ _ _ _=>rfl
 |.bI cs off=>by grind [AV.kill,nZ]
 |.fn f caps=>by simp only[AV.kill];rw[show List.map (Cell.kill S)=id from funext (nZ h),aai]
theorem ak.jY{S:Nat->Bool}(h:∀o,S o=false):∀(c:ak),c.kill S=c
 |.var cs=>by grind [ak.kill,nZ]
 |.arr _ _ _ _=>rfl
theorem St.jY{S:Nat->Bool}(h:∀o,S o=false)(st:St):st.kill S=st:=by
 unfold St.kill;rw[show(λt=>(st.tmps t).kill S)=st.tmps from funext λt=>AV.jY h _];have:(λo=>match S o with|true=>none|false=>(st.af o).map (ak.kill S))=st.af:=by
  funext o
  rw[h o,show ak.kill S=id from funext (ak.jY h)];cases st.af o<;>rfl
 simp_all
theorem Ob:∀(c:Cell),c.refs=[]->c.view s=c.view st
 |.int _ _,_|.bool _,_|.str _,_|.nil,_|.sl _ _ _ _,_|.junk,_=>rfl
theorem BG:∀(cs:List Cell),cs.flatMap Cell.refs=[]->cs.map (Cell.view s)=cs.map (Cell.view st)
 |[],_=>rfl
 |c::cs,h=>by rw[Zt,Zk]at h;rw[Zh,Zh,Ob c h.1,BG cs h.2]
theorem zA(h:st.more s){m:Mode}{x:AV}{r:Arg×Option Nat}(hr:iC st m x=some r):iC s m x=some r:=by
 unfold iC at hr ⊢;cases m with
 |val=>
  grind [lq]
 |own=>
  dsimp only at hr ⊢;split at hr
  .split at hr
   .next ho=>rw[h.af _ _ ho];exact hr
   .cases hr
  .cases hr
 |ptr=>
  dsimp only at hr ⊢;split at hr
  .split at hr
   .next hb ho=>
    split at hr
    .next hn=>rw[hb,h.af _ _ ho];grind [BG]
    .cases hr
   .cases hr
  .cases hr
theorem yj{m:Mode}{x:AV}{r:Arg×Option Nat}(hr:iC st m x=some r):x≠ .undef:=by rintro rfl;cases m<;>simp[iC,fF]at hr
theorem pI(h:st.more s):∀(os:List (Option Nat))(au:List Eff)(δ:List (Nat×ak)),eX st os au=some δ->eX s os au=some δ
 |[],_,_,hb=>by grind [eX]
 |none::os,au,δ,hb=>by exact pI h os _ δ hb
 |some o::os,au,δ,hb=>by
  unfold eX at hb ⊢;split at hb
  .next h1 h2=>rw[h1,pI h _ _ _ h2];exact hb
  .next h1 h2 h3=>rw[h1,h.af _ _ h2,pI h _ _ _ h3];omega
  .next h1 h2 h3=>rw[h1,h.af _ _ h2,pI h _ _ _ h3];omega
  .cases hb
theorem vH:∀(os:List (Option Nat))(au:List Eff),zu os au=true->∀p,bM os au p=false
 |[],_,_,_=>rfl
 |none::os,au,h,p=>by exact vH os _ h p
 |some o::os,au,h,p=>by
  unfold zu at h;unfold bM;split at h
  .next cs he=>rw[he];exact vH os _ h p
  .cases h
theorem IG(h:st.more s){m:Mode}{x:AV}{r:Arg×Option Nat}(hr:jm st m x=some r):jm s m x=some r:=by
 cases m with
 |val=>
  grind [jm,lq]
 |own=>exact zA h (m:=.own) hr
 |ptr=>exact zA h (m:=.ptr) hr
theorem Gn{m:Mode}{x:AV}{r:Arg×Option Nat}(hr:jm st m x=some r):x≠ .undef:=by
 cases m with
 |val=>rintro rfl;simp[jm,fF]at hr
 |own=>exact yj (m:=.own) hr
 |ptr=>exact yj (m:=.ptr) hr
theorem BH(h:st.more s):∀(ms:List Mode)(xs:List AV)(r:List Arg×List (Option Nat)),jV st ms xs=some r->jV s ms xs=some r
 |_,[],r,hr=>by grind [jV]
 |ms,x::xs,r,hr=>by
  unfold jV at hr ⊢;split at hr
  .next h1 h2=>rw[IG h h1,BH h _ _ _ h2];exact hr
  .cases hr
theorem zB:∀(ms:List Mode)(xs:List AV)(r:List Arg×List (Option Nat)),jV st ms xs=some r->∀x∈xs,x≠ .undef
 |_,[],_,_,x,hx=>by cases hx
 |ms,x::xs,r,hr,y,hy=>by
  unfold jV at hr;split at hr
  .next h1 h2=>
   rcases Zl.1 hy with rfl|hy
   .exact Gn h1
   .exact zB _ _ _ h2 y hy
  .cases hr
theorem Oc{xs:List AV}(h:oP xs=true):jw xs=[]:=by
 grind [oP]
theorem kX:∀(ms:List Mode)(xs:List AV)(r:List Arg×List (Option Nat)),jw (nM ms xs)=[]->jV st ms xs=some r->hands st ms xs=some r
 |_,[],r,_,hr=>by grind [jV,hands]
 |ms,x::xs,r,hn,hr=>by
  unfold jV at hr;split at hr
  .next a o as os h1 h2=>
   have key:hands st ms.tail xs=some (as,os)/\iC st (ms.headD .val) x=some (a,o):=by
    cases ms with
    |nil=>
     have hn':x.refs++jw xs=[]:=hn;rw[Zk]at hn';refine⟨kX [] xs _ (by cases xs<;>exact hn'.2) h2,?_⟩
     grind [jm,iC]
    |cons m ms=>
     cases m with
     |val=>
      have hn':x.refs++jw (nM ms xs)=[]:=hn;rw[Zk]at hn';refine⟨kX ms xs _ hn'.2 h2,?_⟩;have h1:jm st .val x=some (a,o):=h1;simp only[jm]at h1;simp only[iC,hn'.1];split at h1
      .next b hb=>rw[hb];exact h1
      .cases h1
     |own=>exact⟨kX ms xs _ hn h2,h1⟩
     |ptr=>exact⟨kX ms xs _ hn h2,h1⟩
   grind [hands]
  .cases hr
theorem II{m:Mode}{x:AV}{a:Arg}{o:Option Nat}(h:jm st m x=some (a,o)):oI false st x a o:=by
 have weak:oI true st x a o->oI false st x a o:=λh=>h.imp (λ⟨h1,_,h3⟩=>⟨h1,(λe=>by cases e),h3⟩) id;cases m with
 |val=>
  simp only[jm]at h;split at h
  .next b hb=>cases h;exact .inl ⟨rfl,(λe=>by cases e),hb⟩
  .cases h
 |own=>exact weak (sW (m:=.own) h)
 |ptr=>exact weak (sW (m:=.ptr) h)
theorem BI:∀(ms:List Mode)(xs:List AV)(as:List Arg)(os:List (Option Nat)),jV st ms xs=some (as,os)->gX false st xs as os
 |_,[],as,os,h=>by cases h;trivial
 |ms,x::xs,as,os,h=>by
  unfold jV at h;split at h
  .next a o as' os' h1 h2=>cases h;exact⟨II h1,BI ms.tail xs as' os' h2⟩
  .cases h
theorem Kq{G:cu}(hE:iD P G Θ Γ w0 M)(h:Rel w0 M T γ s a w)(hm:st.more s)(o:Oper){D U:List Nat}{d:Nat}{p:Prop}{ρ:uY}{os:List (Option Nat)×Bool}
 (hc:wz Γ st o.op=some (p,ρ,os)) (hp:p) (hd:∀q,q / 64=d->s.af q=none) (hch:∀t,ρ.R t->∃r,pF D U d st os (ρ.out t) (ρ.au t)=some r) {next:Act->World->Prop} {Q:Exit->Act->World->Prop}
 (hn:∀t v υ δ u γ' w',ρ.R t->pF D U d st os (ρ.out t) (ρ.au t)=some (v,υ,δ)->Rel w0 M T γ' ((s.adds υ).adds δ) a w'->aA (ai w0 T γ' ((s.adds υ).adds δ) w') v u->next (a.put o.dst u) w'):o.wp P a w next Q:=by
 unfold wz at hc;split at hc
 case h_2=>cases hc
 next f args fU hop=>
 split at hc
 case h_2=>cases hc
 next ms con hcon=>
 split at hc
 case h_2=>cases hc
 next vs os' y7=>
 split at hc
 case h_2=>cases hc
 next hno=>
 split at hc
 case h_2=>cases hc
 next q ρ' hq=>
 cases hc;have hand:handed s args.toList []=handed st args.toList []:=vw hm [] _ (zB _ _ _ y7);have Gp:=BH hm _ _ _ y7;rw[← hand]at Gp hno hch hn;obtain⟨hok,hcall⟩:=hE.IZ f ms con hcon;have hv:aA (ai w0 T γ s w) (.fn f []) (a.eval (.func f)):=bH h (.func f);obtain⟨us,DN,hkx⟩:=hv;unfold Oper.wp;rw[uz hop DN hcall,aam];have hxs:eH (ai w0 T γ s w) (handed s args.toList []) (args.map a.eval++us).toList:=by
  grind [Array.toList_map,o6]
 have hk:(d*64+1)%64=1:=by omega
 have hspec:∀t,ρ.R t->∃υ,jP os'=true/\qI (ρ.au t) ((ρ.out t).take (d*64+1)).2=true/\eX s os' (ρ.au t)=some υ/\s.kill (bM os' (ρ.au t))=s/\bV s ((ρ.out t).take (d*64+1)).2=true/\
  (!(!(oP (nM ms (handed s args.toList []))))||((ρ.out t).made&&sZ (ρ.au t)))=true/\
  pF D U d st (os',!(oP (nM ms (handed s args.toList [])))) (ρ.out t) (ρ.au t)=some (((ρ.out t).take (d*64+1)).1,υ,((ρ.out t).take (d*64+1)).2):=by
  intro t ht;obtain⟨r,hr⟩:=hch t ht;have hr0:=hr;unfold pF at hr;split at hr
  .next υ hnd hb=>
   rw[YZ,YZ,YZ,YZ]at hnd;split at hr
   .cases hr;refine⟨υ,hnd.1,hnd.2.1,pI hm _ _ _ hb,St.jY (vH _ _ hnd.2.2.1) s,?_,hnd.2.2.2.2,hr0⟩;refine Ze.2 λz hz=>?_;rw[hd z.1 (YX (Ze.1 hnd.2.2.2.1 z hz))];rfl
   .cases hr
  .cases hr
 have hpre:∀t,ρ.R t->∃δ,eX s os' (ρ.au t)=some δ/\bV (s.kill (bM os' (ρ.au t))) ((ρ.out t).take (d*64+1)).2=true/\qI (ρ.au t) ((ρ.out t).take (d*64+1)).2=true:=λt ht=>by
  grind
 obtain⟨t0,ht0⟩:=(hok vs _ ρ hq hp).1;obtain⟨_,hnd,_⟩:=hspec t0 ht0;have UL:Calls P f (args.map a.eval++us) w λe w'=>∃t δ,ρ.R t/\eX s os' (ρ.au t)=some δ/\∃v γ',e=.returned v/\
  Rel w0 M T γ' (((s.kill (bM os' (ρ.au t))).adds δ).adds ((ρ.out t).take (d*64+1)).2) a w'/\aA (ai w0 T γ' (((s.kill (bM os' (ρ.au t))).adds δ).adds ((ρ.out t).take (d*64+1)).2) w') ((ρ.out t).take (d*64+1)).1 v:=by
  cases hnr:oP (nM ms (handed s args.toList []))with
  |true=>exact h.L8 hE hxs (wV ms _ vs os' (kX ms _ _ (Oc hnr) Gp)) hnd hk hok hq hp hpre
  |false=>
   rw[hnr]at hno;refine h.JF hE hxs (BI ms _ vs os' Gp) hnd hk hok hq hp (λq e r l he=>?_) (λt ht=>?_) hpre
   .unfold aZ at he;split at he
    .next e' r' l' hb=>have:=Ze.1 hno _ (Zn hb);cases this
    .split at he<;>cases he
    .cases he
   grind
 refine UL.mono ?_
 grind
theorem mr{ops:Array Oper}{listed:Array Bool}{i:Nat}:i∈Region.ready .any ops listed↔
 ∃o,ops[i]? =some o/\listed.getD i true=false/\∀e∈o.after,Region.binds .any e=true->listed.getD e.on false=true:=by
 grind [mem_ready]
theorem uP{listed:Array Bool}{i:Nat}(hi:i<listed.size):listed.getD i true=listed.getD i false:=by
 grind
theorem TT(d:Nat):(d*64+1) / 64=d:=by omega
theorem Ia{o:Op}(h:jU o=true):kM Γ o=true:=by
 unfold jU at h;split at h
 .rfl
 .cases h
theorem Rel.UM(h:Rel w0 M T γ st a w)(d:Nat)(hd:st.n<=d)(v:AV)(hv:v=.dO []):Rel w0 M T γ (st.set d v) (a.put none undef) w:=by
 refine⟨h.mT,h.defers,h.size,h.os,h.tape,h.output,h.grow,h.kept,λt=>?_,h.af,h.lt,h.sep,h.pin⟩;show aA _ (match Nat.beq t d with|true=>v|false=>st.tmps t) (a.tmps.getD t undef);cases hb:Nat.beq t d with
 |false=>exact h.tmps t
 |true=>
  have e:=YX hb;have hs:=h.size;have:a.tmps.getD t undef=undef:=by grind
  rw[this,hv];exact⟨#[],rfl,trivial⟩
theorem Gq{G:cu}(hE:iD P G Θ Γ w0 M){s:St}(h:Rel w0 M T γ s a w)(hm:st.more s)(o:Oper){υ:List (Nat×ak)}(hc:tX Θ st o.op=some υ){next:Act->World->Prop}{Q:Exit->Act->World->Prop}
 (hn:∀γ' w',Rel w0 M T γ' ((s.adds υ).adds []) a w'->next (a.put o.dst undef) w'):o.wp P a w next Q:=by
 unfold tX at hc;split at hc
 case h_2=>cases hc
 next t p x hop=>
 split at hc
 case h_2=>cases hc
 next v ti q off hv ht hp=>
 split at hc
 case h_2=>cases hc
 next cs hlen ho=>
 split at hc
 case h_2=>cases hc
 next wU=>
 cases hc;have hs:store s (.bF q off) v=some (True,s.add q (.var (splice cs off v.cells))):=by unfold store;simp only[hm.af q _ ho,wU]
 have hpv:=bH h p;rw[aF hm hp (by simp)]at hpv;have hxv:=bH h x;rw[aF hm hv (by simp)]at hxv;obtain⟨w',h1,h2⟩:=G7 hE.types h ht hs trivial hpv hxv (YX hlen);exact Oper.wp_skip (w':=w') (by simp_all [execOp]) (hn γ w' h2)
theorem Cell.dK{S:Nat->Bool}(st:St):∀(c:Cell),c.kill S=c->c.freeze st S=c
 |.ref o,h=>by
  grind [Cell.kill,Cell.freeze]
 |.int _ _,_|.bool _,_|.str _,_|.nil,_|.sl _ _ _ _,_|.junk,_=>rfl
theorem fK{S:Nat->Bool}(st:St):∀(cs:List Cell),cs.map (Cell.kill S)=cs->cs.map (Cell.freeze st S)=cs
 |[],_=>rfl
 |c::cs,h=>by rw[Zh,List.cons.injEq]at h;rw[Zh,Cell.dK st c h.1,fK st cs h.2]
theorem SV.dK{S:Nat->Bool}(st:St):∀(c:SV),c.kill S=c->c.freeze st S=c
 |.one c,h=>by
  grind [SV.kill,SV.freeze,Cell.dK]
 |.agg cs,h=>by
  grind [SV.kill,SV.freeze,fK]
theorem qQ{S:Nat->Bool}(st:St):∀(cs:List SV),cs.map (SV.kill S)=cs->cs.map (SV.freeze st S)=cs
 |[],_=>rfl
 |c::cs,h=>by rw[Zh,List.cons.injEq]at h;rw[Zh,SV.dK st c h.1,qQ st cs h.2]
theorem pV{S:Nat->Bool}(st:St):∀(l:List (List Cell)),l.map (List.map (Cell.kill S))=l->l.map (List.map (Cell.freeze st S))=l
 |[],_=>rfl
 |c::cs,h=>by rw[Zh,List.cons.injEq]at h;rw[Zh,fK st c h.1,pV st cs h.2]
theorem AV.dK{S:Nat->Bool}(st:St):∀(c:AV),c.kill S=c->c.freeze st S=c
 |.undef,_=>rfl
 |.sv v,h=>by
  grind [AV.kill,AV.freeze,SV.dK]
 |.dO vs,h=>by
  grind [AV.kill,AV.freeze,qQ]
 |.bF o off,h=>by
  grind [AV.kill,AV.freeze]
 |.dV o i off,h=>by
  grind [AV.kill,AV.freeze]
 |.win o i off,h=>by
  grind [AV.kill,AV.freeze]
 |.fZ _ _ _ _,_=>rfl
 |.bI cs off,h=>by
  grind [AV.kill,AV.freeze,fK]
 |.fn f caps,h=>by
  grind [AV.kill,AV.freeze,pV]
theorem ak.dK{S:Nat->Bool}(st:St):∀(c:ak),c.kill S=c->c.freeze st S=c
 |.var cs,h=>by
  grind [ak.kill,ak.freeze,fK]
 |.arr _ _ _ _,_=>rfl
theorem QM{s:St}{γ0:Nat->Value}{w1:World}{a1:Act}(h0:Rel w0 M T γ0 s a1 w1){q:Nat}(hq:s.af q=none){e:TypeId}{r:aj}{l:List r.den}{fr:Bool}{u:Value}
 (h:Rel w0 M T γ (s.adds [(q,.arr e r l fr)]) a w) (hv:aA (ai w0 T γ (s.adds [(q,.arr e r l fr)]) w) (.sv (.one (.ref q))) u):
 Rel w0 M T γ s a w/\aA (ai w0 T γ s w) (.sv (.one (.sl e r l fr))) u:=by
 have hS:∀o,Nat.beq q o=true->s.af o=none:=λo ho=>by simp_all
 have lK:(s.adds [(q,.arr e r l fr)]).af q=some (.arr e r l fr):=by
  show(match Nat.beq q q with|true=>some _|false=>_)=_
  simp_all
 have hne:∀o,Nat.beq q o=false->(s.adds [(q,.arr e r l fr)]).af o=s.af o:=λo ho=>by
  show(match Nat.beq o q with|true=>some _|false=>_)=_
  grind [Nat.eq_of_beq_eq_true]
 have hs:(s.adds [(q,.arr e r l fr)]).freeze (Nat.beq q)=s:=by
  have ht:((s.adds [(q,.arr e r l fr)]).freeze (Nat.beq q)).tmps=s.tmps:=by
   funext t
   exact AV.dK _ _ (AV.jo hS _ _ (h0.tmps t))
  have ho:((s.adds [(q,.arr e r l fr)]).freeze (Nat.beq q)).af=s.af:=by
   funext o
   simp only[St.freeze];cases hb:Nat.beq q o with
   |true=>grind
   |false=>
    simp only[hne o hb];cases hx:s.af o with
    |none=>rfl
    |some x=>simp only[aaD,ak.dK _ x (ak.jo hS x (h0.af o x hx))]
  show(⟨s.n,((s.adds [(q,.arr e r l fr)]).freeze (Nat.beq q)).tmps,((s.adds [(q,.arr e r l fr)]).freeze (Nat.beq q)).af⟩:St)=⟨s.n,s.tmps,s.af⟩;rw[ht,ho]
 have h1:=h.freeze (S:=Nat.beq q);have h2:=aA.freeze (S:=Nat.beq q) h _ _ hv
 grind [AV.freeze,SV.freeze,Cell.freeze]
structure Way(R:Reg)(ops:Array Oper)(t0:Nat)(path:List aQ):Prop where
 len:path.length=t0
 dst:∀(i:Nat)(o:Oper)(x:aQ),ops[i]? =some o->path[i]? =some x->jl R.n i o=some x.d
 QN:∀x∈path,ax R.D x.d=true
 apart:∀(i j:Nat)(x y:aQ),path[i]? =some x->path[j]? =some y->x.d=y.d->i=j
 idx:∀(i:Nat)(x:aQ),path[i]? =some x->idxOf R.D x.d 0=some i
theorem iF.fit{R:Reg}{base:St}{path:List aQ}{i:Nat}{o:Oper}{x:aQ}(h:iF Θ Γ R base path i o x):
 mX x.d x.δ=true/\(∀q y,look x.u q=some y->ax R.U q=true/\ax R.D (q / 64)=false)/\(x.u≠[]->kM Γ o.op=true)/\∀q∈x.k,qh R.A i q=true/\ax R.D (q / 64)=true:=by
 obtain⟨_,_,h3⟩:=h;rcases h3 with⟨_,⟨_,_,p,v,δ,_,_,hn,hx⟩|⟨_,_,p,q,y,_,_,⟨h1,h2,h3⟩,hx⟩|⟨he,_,υ,_,hin,hx⟩|⟨⟨he,_⟩,hk,p,ρ,os,t,_,_,_,_,hres⟩⟩|⟨_,hx⟩
 .obtain⟨l1,l2,l3,l4⟩:=fV R.F ⟨x.d,v,[],δ,[]⟩;rw[← hx]at l2 l3 l4;exact⟨Ze.2 λy hy=>Ze.1 hn y (l4 y hy),(λq y hy=>by rw[l2]at hy;cases hy),(λhne=>(hne l2).elim),λq hq=>by grind⟩
 .obtain⟨l1,l2,l3,l4⟩:=fV R.F ⟨x.d,.sv (.one (.ref (x.d*64+1))),[],[(x.d*64+1,y)],[q]⟩;rw[← hx]at l2 l3 l4;refine⟨Ze.2 λz hz=>?_,(λq y hy=>by rw[l2]at hy;cases hy),(λhne=>(hne l2).elim),λr hr=>?_⟩
  .have:z=(x.d*64+1,y):=by grind
   rw[this];rw[show(x.d*64+1) / 64=x.d by omega,ZH]
  grind
 .rw[hx];refine⟨rfl,λq y hy=>?_,(λ_=>he),λq hq=>by cases hq⟩;have:=Ze.1 hin _ (jL _ _ _ hy)
  grind
 .unfold pF at hres;split at hres
  .next υ hnd hb=>
   split at hres
   .next hall=>
    simp only[Option.some.injEq,Prod.mk.injEq]at hres;obtain⟨_,e2,e3⟩:=hres;refine⟨by grind,λq y hy=>?_,(λ_=>he),λq hq=>by grind⟩;rw[← e2]at hy;have:=Ze.1 hall _ (jL _ _ _ hy)
    grind
   .cases hres
  .cases hres
 .rw[hx];exact⟨rfl,(λq y hy=>by cases hy),(λhne=>(hne rfl).elim),λq hq=>by cases hq⟩
theorem Es:∀(l:List Oper)(i j:Nat)(o:Oper),l[j]? =some o->kM Γ o.op=true->i+j∈wu Γ i l
 |[],_,_,_,h,_=>by simp at h
 |x::r,i,0,o,h,he=>by
  grind [wu]
 |x::r,i,j+1,o,h,he=>by
  have:=Es r (i+1) j o (by simpa using h) he
  grind [wu]
theorem Way.fits{R:Reg}{ops:Array Oper}{t0:Nat}{path:List aQ}{L:Nat->Bool}{base:St}(W:Way R ops t0 path)(hle:t0<=ops.size)
 (hok:∀j o x,ops[j]? =some o->path[j]? =some x->L j=true->iF Θ Γ R base path j o x):Fits R.D R.U (pick path 0 L):=by
 have get:∀x∈pick path 0 L,∃j o,L j=true/\path[j]? =some x/\ops[j]? =some o:=λx hx=>by obtain⟨j,h1,h2⟩:=(fH _ _).1 hx;rw[ZC]at h1;obtain⟨hj,_⟩:=Y8.1 h2;have hlen:=W.len;exact⟨j,ops[j]'(by omega),h1,h2,by simp⟩
 refine⟨λx hx y hy e=>?_,λx hx=>?_,λx hx=>?_,λx hx q z hz=>?_⟩
 .obtain⟨j,_,_,h2,_⟩:=get x hx;obtain⟨k,_,_,h3,_⟩:=get y hy;have:=W.apart j k x y h2 h3 e
  grind
 .obtain⟨j,_,_,h2,_⟩:=get x hx;exact W.QN x (Zn h2)
 .obtain⟨j,o,h1,h2,h3⟩:=get x hx;exact(hok j o x h3 h2 h1).fit.1
 .obtain⟨j,o,h1,h2,h3⟩:=get x hx;exact(hok j o x h3 h2 h1).fit.2.1 q z hz
theorem Way.set{R:Reg}{ops:Array Oper}{t0:Nat}{path:List aQ}{i:Nat}{x y:aQ}(W:Way R ops t0 path)(hy:path[i]? =some y)(hd:x.d=y.d):Way R ops t0 (path.set i x):=by
 have get:∀(j:Nat)(z:aQ),(path.set i x)[j]? =some z->∃z',path[j]? =some z'/\z.d=z'.d:=λj z hz=>by
  grind
 refine⟨by simpa using W.len,λj o z ho hz=>?_,λz hz=>?_,λj k u v hu hv e=>?_,λj z hz=>?_⟩
 .obtain⟨z',h1,h2⟩:=get j z hz;rw[W.dst j o z' ho h1,h2]
 .obtain⟨j,hj⟩:=Z4 hz;obtain⟨z',h1,h2⟩:=get j z hj;rw[h2];exact W.QN z' (Zn h1)
 .obtain⟨u',h1,h2⟩:=get j u hu;obtain⟨v',h3,h4⟩:=get k v hv;exact W.apart j k u' v' h1 h3 (by omega)
 .obtain⟨z',h1,h2⟩:=get j z hz;rw[h2];exact W.idx j z' h1
theorem QO{G:cu}(hE:iD P G Θ Γ w0 M){ops:Array Oper}{Q:Exit->Act->World->Prop}{R:Reg}{t0:Nat}{path:List aQ}{L L':Nat->Bool}{i:Nat}{o:Oper}
 (W:Way R ops t0 path) (hle:t0<=ops.size) (hit:i<t0)
 (Wy:R.n=st.n) (hDn:∀i o d,ops[i]? =some o->i<t0->o.dst=some d->d<st.n) (hgd:∀i o g b,ops[i]? =some o->i<t0->o.guard=some (g,b)->∃og d,ops[g]? =some og/\og.dst=some d) (hcmp:∀e∈R.E,pz R.ms R.E e=true) (hEi:∀j o',ops[j]? =some o'->j<t0->kM Γ o'.op=true->j∈R.E)
 (hA:∀e q,qh R.A e q=true->∃j,idxOf R.D (q / 64) 0=some j/\(R.ms.getD e 0).testBit j=true)
 (ho:ops[i]? =some o) (hen:Enabled Θ Γ R (aG R.D st) path i o)
 (hok:∀j o x,ops[j]? =some o->path[j]? =some x->L j=true->iF Θ Γ R (aG R.D st) path j o x)
 (hcl:∀j k,L j=true->(R.ms.getD j 0).testBit k=true->L k=true)
 (hsub:∀j,(R.ms.getD i 0).testBit j=true->L j=true) (hi:L i=false) (hi':L' i=true) (h:∀j,j≠i->L' j=L j)
 (hR:Rel w0 M T γ (after (aG R.D st) path L) a w) {K:Act->World->Prop}
 (hK:∀x γ' a' w',(∃y,path[i]? =some y/\x.d=y.d)->iF Θ Γ R (aG R.D st) (path.set i x) i o x->Rel w0 M T γ' (after (aG R.D st) (path.set i x) L') a' w'->K a' w'):
 wpOp P ops Q i K a w:=by
 obtain⟨d,hd,hm,hcase⟩:=hen;have hlen:=W.len;have hil:i<path.length:=by omega
 have hy:path[i]? =some path[i]:=by simp[hil]
 have UN:path[i].d=d:=by
  have:=W.dst i o _ ho hy
  grind
 have XZ:ax R.D d=true:=by rw[← UN];exact W.QN _ (Zn hy)
 have I8:o.dst=some d\/(o.dst=none/\jU o.op=true/\st.n<=d):=by
  grind [jl]
 have hfit:=W.fits hle hok;have hne:∀y∈pick path 0 L,y.d≠d:=λy hy' e=>by
  obtain⟨j,h1,h2⟩:=(fH _ _).1 hy';rw[ZC]at h1;have:=W.apart j i y _ h2 hy (by omega)
  grind
 have heff:∀j x,path[j]? =some x->x.u≠[]->L j=true->j∈R.E:=λj x hx hu hL=>by
  obtain⟨hj,_⟩:=Y8.1 hx;have hoj:ops[j]? =some (ops[j]'(by omega)):=by simp
  exact hEi j _ hoj (by omega) ((hok j _ x hoj hx hL).fit.2.2.1 hu)
 have TU:pz R.ms R.E i=true->∀j,j∈R.E->L j=true->(R.ms.getD i 0).testBit j=true:=λhc j X0 hL=>by
  have:=Ze.1 hc j X0;rw[aad,aad]at this;rcases this with g|g|g
  · simp_all
  .exact g
  grind
 have hmore:(viewAt R (aG R.D st) path i).more (after (aG R.D st) path L):=
  LH hfit hsub W.idx hi (λk hk=>by
   grind) (λhc j x hx hu hL=>TU hc j (heff j x hx hu hL) hL) λe x hx hL q hq=>by
    obtain⟨hj,_⟩:=Y8.1 hx;have hoj:ops[e]? =some (ops[e]'(by omega)):=by simp
    exact((hok e _ x hoj hx hL).fit.2.2.2 q hq).1
 have Yu:∀q,ax (gy (pick path 0 L)) q=true->ax R.D (q / 64)=true/\q / 64≠d:=λq hq=>by
  obtain⟨x,hx,X3⟩:=(iT _).1 hq;obtain⟨e,h1,h2⟩:=(fH _ _).1 hx;rw[ZC]at h1;obtain⟨hj,_⟩:=Y8.1 h2;have hoj:ops[e]? =some (ops[e]'(by omega)):=by simp
  have hf:=(hok e _ x hoj h2 h1).fit.2.2.2 q X3;refine⟨hf.2,λe2=>?_⟩;obtain⟨j,g1,g2⟩:=hA e q hf.1;have:=W.idx i _ hy
  grind
 have hnone:∀q,q / 64=d->(after (aG R.D st) path L).af q=none:=λq hq=>by
  have X4:ax R.D (q / 64)=true:=by grind
  have hP:(dQ (aG R.D st) (pick path 0 L)).af q=none:=by
   unfold dQ;dsimp only;rw[pG _ λy hy'=>by
    cases hl:look y.u q with
    |none=>rfl
    |some z=>have:=(hfit.upd y hy' q z hl).2;grind]
   dsimp only;rw[rV _ λy hy'=>by
    cases hl:look y.δ q with
    |none=>rfl
    |some z=>exact(hne y hy' ((iR (hfit.new y hy') hl).symm.trans hq)).elim]
   exact H8 X4
  grind [after,fJ,St.kill]
 have hself:∀x:aQ,∀j,(R.ms.getD i 0).testBit j=true->path[j]? =(path.set i x)[j]? :=λx j hj=>by
  grind
 have fin:∀(x:aQ)(γ':Nat->Value)(w':World)(u:Value),x.d=d->(o.dst=none->x.v=.dO [])->(∀q y,look x.u q=some y->ax R.U q=true/\ax R.D (q / 64)=false)->mX x.d x.δ=true->(x.u≠[]->i∈R.E)->(∀q∈x.k,ax R.D (q / 64)=true/\q / 64≠d)->
  iF Θ Γ R (aG R.D st) path i o x->Rel w0 M T γ' (((iP x.k (after (aG R.D st) path L)).adds x.u).adds x.δ) a w'->aA (ai w0 T γ' (((iP x.k (after (aG R.D st) path L)).adds x.u).adds x.δ) w') x.v u->K (a.put o.dst u) w':=by
  intro x γ' w' u hxd hxv hxu hxn YU hxk pJ hR' hv;have hn2:(((iP x.k (after (aG R.D st) path L)).adds x.u).adds x.δ).n=st.n:=by rw[(oH _ _).2,(oH _ _).2,fJ];unfold after;rw[fJ];rfl
  have UO:∀q,ax (gy (pick (path.set i x) 0 L')) q=true->ax R.D (q / 64)=true/\q / 64≠d:=λq hq=>by
   obtain⟨y,hy1,hyq⟩:=(iT _).1 hq;obtain⟨e,h1,h2⟩:=(fH _ _).1 hy1;rw[ZC]at h1;by_cases MK:e=i
   · grind
   grind [iT,fH]
  have SY:∀q,ax (gy (pick (path.set i x) 0 L')) q=true->(((iP x.k (after (aG R.D st) path L)).adds x.u).adds x.δ).af q=none:=λq hq=>by
   obtain⟨g1,g2⟩:=UO q hq;rw[iY,iY];have X5:look x.δ q=none:=by
    cases hl:look x.δ q with
    |none=>rfl
    |some z=>grind [iR]
   have X6:look x.u q=none:=by
    cases hl:look x.u q with
    |none=>rfl
    |some z=>grind
   rw[X5,X6];dsimp only;rw[fJ];unfold after;rw[fJ];obtain⟨y,hy1,hyq⟩:=(iT _).1 hq;obtain⟨e,h1,h2⟩:=(fH _ _).1 hy1;rw[ZC]at h1;by_cases MK:e=i
   · grind [St.kill,iQ]
   .rw[Z5 (aas MK)]at h2;rw[h e MK]at h1;have:=(iT (o:=q) (pick path 0 L)).2 ⟨y,(fH _ _).2 ⟨e,by grind,h2⟩,hyq⟩;simp only[St.kill,this,ZW];cases ax x.k q<;>rfl
  have hset:Rel w0 M T γ' (St.set (((iP x.k (after (aG R.D st) path L)).adds x.u).adds x.δ) x.d x.v) (a.put o.dst u) w':=by
   rcases I8 with hs|⟨hs,_,hs2⟩
   .rw[hs,← hxd];exact hR'.set x.d (by grind) x.v u hv
   .rw[hs];exact hR'.UM x.d (by omega) x.v (hxv hs)
  have W':Way R ops t0 (path.set i x):=W.set hy (by rw[hxd,UN]);have VS:Fits R.D R.U (pick (path.set i x) 0 L'):=by
   refine W'.fits (Θ:=Θ) (Γ:=Γ) (base:=aG R.D st) hle λj o' z ho' hz hL=>?_;by_cases e:j=i
   .subst e;rw[List.getElem?_set_self hil]at hz;cases hz;rw[ho]at ho';cases ho';exact pJ.agree (hself x)
   .rw[Z5 (aas e)]at hz;rw[h j e]at hL;refine(hok j o' z ho' hz hL).agree λk hk=>?_
    grind
  rw[N8 hil hi hi' h VS (λy hy'=>by grind) (λhu j y hj hL hy'=>by
   grind [gU]) (AV.jo SY _ _ hv) (λq y hq=>by
   have lK:(((iP x.k (after (aG R.D st) path L)).adds x.u).adds x.δ).af q=some y:=by
    rw[iY,iY];rcases hq with hq|hq
    .rw[hq]
    .have:look x.δ q=none:=by
      cases hl:look x.δ q with
      |none=>rfl
      |some z=>have h1:=(hxu q y hq).2;rw[(iR hxn hl).trans hxd,XZ]at h1;cases h1
     rw[this,hq]
   refine⟨?_,ak.jo SY y (hR'.af q y lK)⟩
   grind)]at hset
  exact hK x γ' _ _ ⟨_,hy,by rw[hxd,UN]⟩ (pJ.agree (hself x)) hset
 have fin2:∀(x:aQ)(γ':Nat->Value)(w':World)(u:Value),x.d=d->x.u=[]->(o.dst=none->False)->mX x.d x.δ=true->(∀q∈x.k,ax R.D (q / 64)=true/\q / 64≠d)->
  iF Θ Γ R (aG R.D st) path i o (eP R.F x)->Rel w0 M T γ' (((iP x.k (after (aG R.D st) path L)).adds []).adds x.δ) a w'->aA (ai w0 T γ' (((iP x.k (after (aG R.D st) path L)).adds []).adds x.δ) w') x.v u->K (a.put o.dst u) w':=by
  intro x γ' w' u hxd hxu hno hxn hxk pJ hR' hv;obtain⟨l1,l2,l3,l4⟩:=fV R.F x;refine fin (eP R.F x) γ' w' u (l1.trans hxd) (λh=>(hno h).elim) (λq y hy=>by rw[l2,hxu]at hy;cases hy) (Ze.2 λy hy=>by rw[l1];exact Ze.1 hxn y (l4 y hy)) (λhne=>(hne (l2.trans hxu)).elim) (by rw[l3];exact hxk) pJ ?_ ?_
  all_goals
   rw[l3,l2,hxu];unfold eP;split
   .next q q' e r l fr _ hv2 hu2 hδ=>
    split
    .next hb=>
     have e1:=YX hb;subst e1;rw[hδ]at hR' hv hxn;rw[hv2]at hv;have X7:q / 64=d:=by have:=YX (Ze.1 hxn _ Y6);exact this.trans hxd
     have hq0:(iP x.k (after (aG R.D st) path L)).af q=none:=by rw[fJ];simp only[St.kill,hnone q X7,ZW];cases ax x.k q<;>rfl
     have:=QM (hR.iP x.k) hq0 hR' hv
     first|exact this.1|exact this.2
    .first|exact hR'|exact hv
   .first|exact hR'|exact hv
 have hgv:∀g b y,o.guard=some (g,b)->(R.ms.getD i 0).testBit g=true->path[g]? =some y->∃og,ops[g]? =some og/\og.dst=some y.d/\∃u,a.tmps[y.d]? =some u/\aA (ai w0 T γ (after (aG R.D st) path L) w) (y.v.kill (ax (gy (pick path 0 L)))) u:=by
  intro g b y hgo hg hy';obtain⟨hgl,_⟩:=Y8.1 hy';have hog:ops[g]? =some (ops[g]'(by omega)):=by simp
  have UQ:(ops[g]'(by omega)).dst=some y.d:=by obtain⟨og,e,h1,h2⟩:=hgd i o g b ho hit hgo;rw[hog]at h1;cases h1;have:=W.dst g _ y hog hy';unfold jl at this;rw[h2]at this;rw[h2];exact this
  have X8:y.d<st.n:=hDn g _ _ hog (by omega) UQ;have hin:y∈pick path 0 L:=(fH _ _).2 ⟨g,by rw[ZC];exact hsub g hg,hy'⟩;have JM:(after (aG R.D st) path L).tmps y.d=y.v.kill (ax (gy (pick path 0 L))):=by unfold after;rw[fJ];show(jO (pick path 0 L) y.d _).kill _=_;rw[zx _ hin λz hz e=>hfit.one y hin z hz e]
  have hr1:=hR.tmps y.d;rw[JM]at hr1;have hsz:y.d<a.tmps.size:=by rw[hR.size];unfold after;rw[fJ];exact X8
  refine⟨_,hog,UQ,a.tmps[y.d],by simp,?_⟩;simpa[Array.getD,hsz]using hr1
 unfold wpOp;simp only[ho];rcases hcase with⟨hw,hcase⟩|hun
 .have hwant:Region.wanted o (yielded ops a.tmps)=true:=by
   rcases hw with e|⟨g,b,y,e1,e2,e3,e4⟩
   .unfold Region.wanted;rw[e]
   .obtain⟨og,k1,k2,u,k3,k4⟩:=hgv g b y e1 e2 e3;rw[e4]at k4;have k4:u=.bool b:=k4;subst k4;unfold Region.wanted;rw[e1];simp[yielded,k1,k2,k3]
  rw[if_pos hwant];left;rcases hcase with⟨he,ha,p,v,δ,hcalm,hp,hn⟩|⟨he,ha,p,q,y,happ,hp,hq1,hq2,hq3⟩|⟨he,hst,υ,hυ,hin⟩|⟨⟨he,hst⟩,p,ρ,os,hrel,hp,hall⟩
  .obtain⟨v',hc',hless⟩:=O6 hmore d o.op hcalm;have hfr:bV (after (aG R.D st) path L) δ=true:=by refine Ze.2 λz hz=>?_;rw[hnone z.1 (YX (Ze.1 hn z hz))];rfl
   refine rE hE hR o hc' hp hfr ?_;intro u γ' w' hR' hv';have DN:aA (ai w0 T γ' ((after (aG R.D st) path L).adds δ) w') v u:=by
    rcases hless with e|e
    .rw[e];trivial
    .rw[← e];exact hv'
   have pJ:iF Θ Γ R (aG R.D st) path i o (eP R.F ⟨d,v,[],δ,[]⟩):=by obtain⟨l1,_⟩:=fV R.F ⟨d,v,[],δ,[]⟩;refine⟨by rw[l1];exact hd,hm,.inl ⟨hw,.inl ⟨he,ha,p,v,δ,by rw[l1];exact hcalm,hp,by rw[l1];exact hn,by rw[l1]⟩⟩⟩
   exact fin2 ⟨d,v,[],δ,[]⟩ γ' w' u rfl rfl (λh=>by
    rcases I8 with hs|⟨_,hs,_⟩
    .rw[h]at hs;cases hs
    .rw[Ia hs]at he;cases he) hn (λq hq=>by cases hq) pJ hR' DN
  .have VT:=Lu hmore happ;have pJ:iF Θ Γ R (aG R.D st) path i o (eP R.F ⟨d,.sv (.one (.ref (d*64+1))),[],[(d*64+1,y)],[q]⟩):=by obtain⟨l1,_⟩:=fV R.F ⟨d,.sv (.one (.ref (d*64+1))),[],[(d*64+1,y)],[q]⟩;refine⟨by rw[l1];exact hd,hm,.inl ⟨hw,.inr (.inl ⟨he,ha,p,q,y,happ,hp,by rw[l1];exact⟨hq1,hq2,hq3⟩,by rw[l1]⟩)⟩⟩
   have hkq:∀s:St,s.kill (ax [q])=s.kill (Nat.beq q ·):=λs=>by
    rw[show ax [q]=(Nat.beq q ·)from funext λo=>by
     simp only[ax];cases h1:Nat.beq o q with
     |true=>rw[YX h1,ZH]
     |false=>
      cases h2:Nat.beq q o with
      |false=>rfl
      |true=>rw[YX h2,ZH]at h1;cases h1]
   refine Pm hE hR o (n:=d*64+1) VT hp (hnone (d*64+1) (TT d)) λu γ' w' hR' hv=>?_;rw[← hkq]at hR' hv;exact fin2 ⟨d,.sv (.one (.ref (d*64+1))),[],[(d*64+1,y)],[q]⟩ γ' w' u rfl rfl (λh=>by
    rcases I8 with hs|⟨_,hs,_⟩
    .rw[h]at hs;cases hs
    .rw[Ia hs]at he;cases he) (by show(Nat.beq ((d*64+1) / 64) d&&true)=true;rw[show(d*64+1) / 64=d by omega,ZH];rfl)
    (λr hr=>by rw[show r=q by simpa using hr];exact⟨hq1,hq2⟩) pJ hR' hv
  .have pJ:iF Θ Γ R (aG R.D st) path i o ⟨d,.dO [],υ,[],[]⟩:=⟨hd,hm,.inl ⟨hw,.inr (.inr (.inl ⟨he,hst,υ,hυ,hin,rfl⟩))⟩⟩;obtain⟨f1,f2,f3,_⟩:=pJ.fit;refine Gq hE hR hmore o hυ λγ' w' hR'=>?_;exact fin ⟨d,.dO [],υ,[],[]⟩ γ' w' undef rfl (λ_=>rfl) f2 f1 (λ_=>hEi i o ho hit he) (λq hq=>by cases hq) pJ hR' ⟨#[],rfl,trivial⟩
  .refine Kq hE hR hmore o hrel hp hnone hall λt v υ δ u γ' w' ht hres hR' hv=>?_;have pJ:iF Θ Γ R (aG R.D st) path i o ⟨d,v,υ,δ,[]⟩:=⟨hd,hm,.inl ⟨hw,.inr (.inr (.inr ⟨⟨he,hst⟩,rfl,p,ρ,os,t,hrel,hp,ht,hall,hres⟩))⟩⟩;obtain⟨f1,f2,f3,_⟩:=pJ.fit;exact fin ⟨d,v,υ,δ,[]⟩ γ' w' u rfl (λh=>by
    rcases I8 with hs|⟨_,hs,_⟩
    .rw[h]at hs;cases hs
    .rw[hst]at hs;cases hs) f2 f1 (λ_=>hEi i o ho hit he) (λq hq=>by cases hq) pJ hR' hv
 .have hwant:Region.wanted o (yielded ops a.tmps)=false:=by
   obtain⟨g,b,y,e1,e2,e3,e4⟩:=hun;obtain⟨og,k1,k2,u,k3,k4⟩:=hgv g b y e1 e2 e3;unfold Region.wanted;rw[e1];rcases e4 with⟨c,e4,hne'⟩|⟨vs,e4⟩
   .rw[e4]at k4;have k4:u=.bool c:=k4;subst k4;cases c<;>cases b<;>first|(exact(hne' rfl).elim)|simp[yielded,k1,k2,k3]
   .rw[e4]at k4;obtain⟨us,rfl,_⟩:=k4;simp[yielded,k1,k2,k3]
  rw[if_neg (by rw[hwant];simp)];exact fin (skipped d) γ w undef rfl (λ_=>rfl) (λq y hy=>by cases hy) rfl (λhu=>(hu rfl).elim) (λq hq=>by cases hq) ⟨hd,hm,.inr ⟨hun,rfl⟩⟩ hR ⟨#[],rfl,trivial⟩
theorem fill{G:cu}(hE:EnvB P G Θ Γ){R:Reg}{base:St}{front:List Oper}{path:List aQ}{L:Nat->Bool}
 (xG:∀ext:List aQ,CV Θ Γ R base front ext->∀o,front[ext.length]? =some o->Enabled Θ Γ R base ext ext.length o)
 (hok:∀j o x,front[j]? =some o->path[j]? =some x->L j=true->iF Θ Γ R base path j o x) (hlen:path.length=front.length)
 (hcl:∀j k,L j=true->(R.ms.getD j 0).testBit k=true->L k=true):
 ∀n,n<=front.length->∃ext:List aQ,ext.length=n/\CV Θ Γ R base front ext/\∀j,j<n->L j=true->ext[j]? =path[j]? :=by
 intro n
 induction n with
 |zero=>exactλ_=>⟨[],rfl,(λi o x _ hx=>by simp at hx),(λj hj=>by omega)⟩
 |succ n ih=>
  intro hn;obtain⟨ext,h1,h2,h3⟩:=ih (by omega);have ho:front[n]? =some (front[n]'(by omega)):=by simp
  have more:∀x:aQ,iF Θ Γ R base (ext++[x]) n (front[n]'(by omega)) x->CV Θ Γ R base front (ext++[x]):=by
   intro x hx i o y hi hy;rcases Zp i n with hlt|hge
   .rw[NY (by omega)]at hy;have:=h2 i o y hi hy;refine this.agree λj hj=>?_;have:j<i:=by
     rcases Zp j i with h|h
     .exact h
     .rw[gU this.2.1 h]at hj;cases hj
    grind
   grind
  cases hL:L n with
  |true=>
   have hp:path[n]? =some (path[n]'(by omega)):=by simp
   have hx:=hok n _ _ ho hp hL;have hag:∀j,(R.ms.getD n 0).testBit j=true->path[j]? =(ext++[path[n]'(by omega)])[j]? :=λj hj=>by
    have hjn:j<n:=by
     rcases Zp j n with h|h
     .exact h
     .rw[gU hx.2.1 h]at hj;cases hj
    grind
   refine⟨ext++[path[n]'(by omega)],by simp[h1],more _ (hx.agree hag),λj hj X9=>?_⟩
   grind
  |false=>
   have hen:=xG ext h2 _ (by rw[h1];exact ho);rw[h1]at hen;have hag:∀x:aQ,(∃d,jl R.n n (front[n]'(by omega))=some d/\R.ms.getD n 0<2 ^ n)->∀j,(R.ms.getD n 0).testBit j=true->ext[j]? =(ext++[x])[j]? :=λx⟨_,_,hm⟩ j hj=>by
    grind [gU]
   obtain⟨d,hd,hm,hc⟩:=hen;have hx:∃x,iF Θ Γ R base ext n (front[n]'(by omega)) x:=by
    rcases hc with⟨hw,⟨he,ha,p,v,δ,hcalm,hp,hnm⟩|⟨he,ha,p,q,y,happ,hp,hq⟩|⟨he,hst,υ,hυ,hin⟩|⟨⟨he,hst⟩,p,ρ,os,hrel,hp,hall⟩⟩|hun
    .exact⟨eP R.F ⟨d,v,[],δ,[]⟩,by grind [fV],hm,.inl ⟨hw,.inl ⟨he,ha,p,v,δ,by grind [fV],hp,by grind [fV],by grind [fV]⟩⟩⟩
    .exact⟨eP R.F ⟨d,.sv (.one (.ref (d*64+1))),[],[(d*64+1,y)],[q]⟩,by grind [fV],hm,.inl ⟨hw,.inr (.inl ⟨he,ha,p,q,y,happ,hp,by grind [fV],by grind [fV]⟩)⟩⟩
    .exact⟨⟨d,.dO [],υ,[],[]⟩,hd,hm,.inl ⟨hw,.inr (.inr (.inl ⟨he,hst,υ,hυ,hin,rfl⟩))⟩⟩
    .have hne:∃t,ρ.R t:=by
      unfold wz at hrel;split at hrel
      case h_2=>cases hrel
      next f args fU hop=>
      split at hrel
      case h_2=>cases hrel
      next ms con hcon=>
      split at hrel
      case h_2=>cases hrel
      next vs os' y7=>
      split at hrel
      case h_2=>cases hrel
      split at hrel
      case h_2=>cases hrel
      next q ρ' hq=>
      cases hrel;exact((hE.IZ f ms con hcon).1 vs _ ρ hq hp).1
     obtain⟨t,ht⟩:=hne;obtain⟨⟨v,υ,δ⟩,hres⟩:=hall t ht;exact⟨⟨d,v,υ,δ,[]⟩,hd,hm,.inl ⟨hw,.inr (.inr (.inr ⟨⟨he,hst⟩,rfl,p,ρ,os,t,hrel,hp,ht,hall,hres⟩))⟩⟩
    .exact⟨skipped d,hd,hm,.inr ⟨hun,rfl⟩⟩
   obtain⟨x,hx⟩:=hx;refine⟨ext++[x],by simp[h1],more x (hx.agree (hag x ⟨d,hd,hm⟩)),λj hj X9=>?_⟩
   grind
end Go.Fw
namespace Go.Fw
open Go
variable {P:Program}
def handsOn(o:Oper):Option Operand:=match o.op,o.guard with
 |.move x,none=>some x
 |.extract x _,none=>some x
 |_,_=>none
def Operand.uf(d:Nat):Operand->Bool
 |.tmp t=>!(Nat.beq t d)
 |_=>true
def CW(d:Nat)(o:Oper):Bool:=match o.op,o.guard with
 |.move x,none|.assign x,none|.extract x _,none=>Operand.uf d x
 |.store _ a x,none=>Operand.uf d a&&Operand.uf d x
 |_,_=>false
def passes(f o:Oper):Bool:=match handsOn f,f.dst with
 |some x,some d=>CW d o&&(match o.dst with|some e=>!(Nat.beq e d)&&Operand.uf e x|none=>true)
 |_,_=>false
theorem eval_put_ne{a:Act}{d:Option Tmp}{v:Value}{x:Operand}(h:∀e,d=some e->Operand.uf e x=true):(a.put d v).eval x=a.eval x:=by
 cases d with
 |none=>rfl
 |some e=>
  cases x with
  |tmp t=>
   have hne:e≠t:=λh=>by simp_all [Operand.uf]
   show(a.tmps.setIfInBounds e v).getD t undef=a.tmps.getD t undef
   simp_all
  |const _=>rfl
  |global _=>rfl
  |func _=>rfl
theorem put_comm{a:Act}{d e:Option Tmp}{u v:Value}(h:∀x y,d=some x->e=some y->x≠y):(a.put d u).put e v=(a.put e v).put d u:=by
 cases d with
 |none=>rfl
 |some x=>cases e with
  |none=>rfl
  |some y=>
   grind [Act.put,Array.setIfInBounds_comm]
theorem Kr{f:Oper}{x:Operand}(hf:handsOn f=some x):f.guard=none/\
 ((∃g:Value->Option Value,(∀b:Act,∀w',(match g (b.eval x)with|some u=>(execOp b.eval f).run P w'=.ok (.value u) w'|none=>∃m,(execOp b.eval f).run P w'=m/\∀next Q,¬f.upon P b next Q m)))):=by
 unfold handsOn at hf;split at hf
 .next y hop hg=>cases hf;exact⟨hg,λv=>some v,λb w'=>by simp[execOp,hop]⟩
 .next y ix hop hg=>
  cases hf;refine⟨hg,λv=>match v with|.tuple vs=>vs[ix]? |_=>none,λb w'=>?_⟩;cases hv:b.eval x with
  |tuple vs=>
   cases hq:vs[ix]? with
   |some u=>simp_all [execOp,Instr.extract]
   |none=>
    simp_all [execOp,Instr.extract,Oper.upon]
  |_=>simp[execOp,hop,hv,Instr.extract,stuck,Oper.upon]
 .cases hf
theorem IJ{d:Nat}{o:Oper}(h:CW d o=true):o.guard=none/\
 (∀(a:Act)(v:Value),execOp (a.put (some d) v).eval o=execOp a.eval o)/\
 (∀(a:Act)(w:World),(∃v w',(execOp a.eval o).run P w=.ok (.value v) w')\/(∃w',(execOp a.eval o).run P w=.ok .skip w')\/∃x w',(execOp a.eval o).run P w=.halt x w'):=by
 unfold CW at h;have ev:∀(a:Act)(v:Value)(x:Operand),Operand.uf d x=true->(a.put (some d) v).eval x=a.eval x:=λa v x hx=>eval_put_ne λe he=>by grind
 split at h
 · simp_all [execOp]
 · simp_all [execOp]
 .next x ix hop hg=>
  refine⟨hg,λa v=>?_,λa w=>?_⟩
  · grind [execOp]
  .cases hr:(Instr.extract (a.eval x) ix).run P w with
   |ok u w'=>simp_all [execOp]
   |halt u w'=>simp_all [execOp]
 .next t b x hop hg=>
  refine⟨hg,λa v=>?_,λa w=>?_⟩
  · grind [execOp]
  .cases hr:(Instr.storeAt t (a.eval b) (a.eval x)).run P w with
   |ok u w'=>simp_all [execOp]
   |halt u w'=>simp_all [execOp]
 .cases h
def stepW(P:Program)(ops:Array Oper)(Q:Exit->Act->World->Prop)(o:Oper)(K:Act->World->Prop)(a:Act)(w:World):Prop:=
 if Region.wanted o (yielded ops a.tmps)then o.wp P a w K Q\/(o.asks P a w/\LetsOut Q)else K (a.put o.dst undef) w
theorem xH{ops:Array Oper}{Q:Exit->Act->World->Prop}{o:Oper}{K K':Act->World->Prop}{a:Act}{w:World}(h:∀a w,K a w->K' a w)(hs:stepW P ops Q o K a w):stepW P ops Q o K' a w:=by
 grind [stepW,Oper.wp_mono]
theorem rW{ops:Array Oper}{Q:Exit->Act->World->Prop}(hO:¬LetsOut Q){o:Oper}(hg:o.guard=none){K:Act->World->Prop}{a:Act}{w:World}:stepW P ops Q o K a w↔o.wp P a w K Q:=by
 grind [Region.wanted,stepW]
theorem Oe{ops:Array Oper}{Q:Exit->Act->World->Prop}(hQ:∀c a w,¬Q (.panic c) a w)(hO:¬LetsOut Q){f o:Oper}(h:passes f o=true){K:Act->World->Prop}{a:Act}{w:World}
 (hs:stepW P ops Q f (stepW P ops Q o K) a w):stepW P ops Q o (stepW P ops Q f K) a w:=by
 unfold passes at h;split at h
 .next x d hx hd=>
  rw[YZ]at h;obtain⟨hp,hde⟩:=h;obtain⟨hgf,g,hg⟩:=Kr (P:=P) hx;obtain⟨hgo,hsame,hout⟩:=IJ (P:=P) hp;rw[rW hO hgf]at hs;rw[rW hO hgo];have hxo:∀(v:Value),(a.put o.dst v).eval x=a.eval x:=λv=>eval_put_ne λe he=>by
   grind
  have hcomm:∀(u v:Value),(a.put f.dst u).put o.dst v=(a.put o.dst v).put f.dst u:=λu v=>put_comm λx y hx hy=>by intro e;simp_all
  have h0:=hg a w;cases hga:g (a.eval x)with
  |none=>
   grind [Oper.wp]
  |some u=>
   rw[hga]at h0;unfold Oper.wp at hs;rw[h0]at hs;have hs:stepW P ops Q o K (a.put f.dst u) w:=hs;rw[rW hO hgo]at hs;unfold Oper.wp at hs ⊢;rw[hd,hsame]at hs;rw[← hd]at hs;have again:∀(v:Value)(w':World),K ((a.put f.dst u).put o.dst v) w'->stepW P ops Q f K (a.put o.dst v) w':=by
    intro v w' hK;rw[rW hO hgf];have h1:=hg (a.put o.dst v) w';rw[hxo,hga]at h1;unfold Oper.wp;rw[h1];show K _ _
    grind
   rcases hout a w with⟨v,w',hr⟩|⟨w',hr⟩|⟨y,w',hr⟩
   .rw[hr]at hs ⊢;exact again v w' hs
   .rw[hr]at hs ⊢;exact again undef w' hs
   .rw[hr]at hs;cases y<;>simp only[Oper.upon]at hs
    grind
 .cases h
def qR(P:Program)(ops:Array Oper)(Q:Exit->Act->World->Prop)(K:Act->World->Prop):List Oper->Act->World->Prop
 |[]=>K
 |o::r=>stepW P ops Q o (qR P ops Q K r)
theorem BJ{ops:Array Oper}{Q:Exit->Act->World->Prop}:∀(l:List Oper),qR P ops Q (Q .normal) l=wpList P ops Q l
 |[]=>rfl
 |o::r=>by rw[qR,BJ r];rfl
theorem CX{ops:Array Oper}{Q:Exit->Act->World->Prop}(hQ:∀c a w,¬Q (.panic c) a w)(hO:¬LetsOut Q){o:Oper}{K:Act->World->Prop}(B:List Oper):
 ∀(A:List Oper)(a:Act)(w:World),(∀f∈A,passes f o=true)->qR P ops Q K (A++o::B) a w->stepW P ops Q o (qR P ops Q K (A++B)) a w
 |[],_,_,_,hs=>hs
 |f::A,a,w,h,hs=>by exact Oe hQ hO (h f Y6) (xH (λa w h'=>CX hQ hO B A a w (λf hf=>h f (Y5 _ hf)) h') hs)
theorem wpOp_step{ops:Array Oper}{Q:Exit->Act->World->Prop}{i:Nat}{o:Oper}(ho:ops[i]? =some o){K:Act->World->Prop}{a:Act}{w:World}:wpOp P ops Q i K a w↔stepW P ops Q o K a w:=by
 grind [wpOp,stepW]
theorem zC{ops:Array Oper}{listed:Array Bool}(hcl:∀i j,listed.getD i false=true->((masks ops.toList []).getD i 0).testBit j=true->listed.getD j false=true){i:Nat}{o:Oper}(ho:ops[i]? =some o)
 (hi:i∈Region.ready .any ops listed) (j:Nat) (hj:((masks ops.toList []).getD i 0).testBit j=true):listed.getD j false=true:=by
 obtain⟨o',ho',hn,hall⟩:=mr.1 hi;obtain⟨e,he,hb,YV⟩:=PO (ops:=ops.toList) (i:=i) (o:=o) (by simpa using ho) hj
 grind
theorem QS{ops:Array Oper}{Q:Exit->Act->World->Prop}(hQ:∀c a w,¬Q (.panic c) a w)(hO:¬LetsOut Q){t0:Nat}{S:Nat->Prop}
 (hfl:∀i o j f,ops[i]? =some o->ops[j]? =some f->j<i->t0<=i\/(S i/\S j)->((masks ops.toList []).getD i 0).testBit j=true\/(S j/\passes f o=true)) (hS:∀j,S j->j<t0)
 (hlt:∀i o,ops[i]? =some o->(masks ops.toList []).getD i 0<2 ^ i):
 ∀(fuel:Nat)(F:List (Nat×Oper))(l:List Oper)(k:Nat)(listed:Array Bool)(a:Act)(w:World),t0<=k->k<=ops.size->(∀j,l[j]? =ops[k+j]?)->listed.size=ops.size->
  (∀x∈F,ops[x.1]? =some x.2/\S x.1)->F.Pairwise (λx y=>x.1<y.1)->
  (∀i,i<ops.size->(listed.getD i false=true↔i<k/\∀x∈F,x.1≠i))->
  (∀i j,listed.getD i false=true->((masks ops.toList []).getD i 0).testBit j=true->listed.getD j false=true)->
  F.length+ops.size<=k+fuel->qR P ops Q (Q .normal) (F.map (·.2)++l) a w->wpAny P .any ops Q fuel listed a w:=by
 intro fuel;have UR:∀{i:Nat}{o:Oper},ops[i]? =some o->∀e∈o.after,Region.binds .any e=true->e.on<i:=by
  intro i o ho e he hb;have Og:=HY (ops:=ops.toList) (i:=i) (o:=o) (by simpa using ho) he hb
  grind [gU]
 have TV:∀(k:Nat)(l:List Oper)(listed:Array Bool),(∀j,l[j]? =ops[k+j]?)->listed.size=ops.size->(∀i,i<ops.size->(listed.getD i false=true↔i<k/\∀x∈([]:List (Nat×Oper)),x.1≠i))->l=[]->Region.ready .any ops listed=[]:=by
  intro k l listed hl hsz hL hnil;have hend:ops.size<=k:=by
   rcases Zp k ops.size with h|h
   .have:=hl 0;grind
   .exact h
  refine List.eq_nil_iff_forall_not_mem.2 λi hi=>?_
  grind [mr]
 induction fuel with
 |zero=>
  intro F l k listed a w hk hkz hl hsz hF hp hL hcl hf hw;have hk2:ops.size<=k/\F.length=0:=by omega
  obtain⟨hk2,Ya⟩:=hk2;have hFn:F=[]:=ZN.1 Ya;subst hFn;have hln:l=[]:=by
   cases l with
   |nil=>rfl
   |cons o l=>have:=hl 0;grind
  subst hln;exact wpAny_done (TV k [] listed hl hsz hL rfl) hw 0
 |succ fuel ih=>
  intro F l k listed a w hk hkz hl hsz hF hp hL hcl hf hw;have hset:∀i,i<listed.size->∀j,(listed.setIfInBounds i true).getD j false=(if j=i then true else listed.getD j false):=by
   intro i hi j;split
   · simp_all
   .next e=>exact getD_set_ne false (aas e)
  have PV:∀i o,ops[i]? =some o->i∈Region.ready .any ops listed->∀j m,(listed.setIfInBounds i true).getD j false=true->((masks ops.toList []).getD j 0).testBit m=true->(listed.setIfInBounds i true).getD m false=true:=by
   intro i o ho hi j m hj hm;obtain⟨hi1,_⟩:=Zd.1 ho
   grind [zC]
  refine⟨λhnone=>?_,λi hi=>?_⟩
  .cases F with
   |cons x F=>
    exfalso;obtain⟨hx1,hx2⟩:=hF x Y6;have YH:=hS _ hx2;obtain⟨hxs,_⟩:=Zd.1 hx1;have hun:listed.getD x.1 true=false:=by
     grind
    have:x.1∈Region.ready .any ops listed:=by
     grind [mr,List.pairwise_cons]
    grind
   |nil=>
    cases l with
    |nil=>exact hw
    |cons o l=>
     exfalso;have ho:ops[k]? =some o:=by simpa using(hl 0).symm
     obtain⟨hks,_⟩:=Zd.1 ho;have hun:listed.getD k true=false:=by
      rw[uP (by omega)];cases hb:listed.getD k false with
      |false=>rfl
      |true=>have:=((hL k hks).1 hb).1;omega
     have:k∈Region.ready .any ops listed:=by refine mr.2 ⟨o,ho,hun,λe he hb=>?_⟩;have UU:=UR ho e he hb;exact(hL e.on (by omega)).2 ⟨by omega,λy hy=>by cases hy⟩
     grind
  .obtain⟨o,ho,hn,_⟩:=mr.1 hi;obtain⟨his,_⟩:=Zd.1 ho;have hun:listed.getD i false=false:=by rw[← uP (by omega)];exact hn
   have hsub:=zC hcl ho hi;rw[wpOp_step ho];by_cases UW:∃x∈F,x.1=i
   .obtain⟨x,WA,rfl⟩:=UW;obtain⟨A,B,rfl⟩:=List.append_of_mem WA;obtain⟨hx1,hx2⟩:=hF x WA;rw[ho]at hx1;have hxo:x.2=o:=(Option.some.inj hx1).symm;have hpA:∀y∈A,y.1<x.1:=λy hy=>(aap.1 hp).2.2 y hy x Y6;have Yb:∀y∈B,x.1<y.1:=λy hy=>(aaf.1 (aap.1 hp).2.1).1 y hy;have hw2:qR P ops Q (Q .normal) (A.map (·.2)++o::(B.map (·.2)++l)) a w:=by rw[aaq,Zh,hxo,ZM]at hw;exact hw
    refine xH ?_ (CX hQ hO _ _ a w (λf hf=>?_) hw2)
    .intro a' w' h';refine ih (A++B) l k _ a' w' hk hkz hl (by simpa using hsz) (λy hy=>hF y ?_) ?_ ?_ (PV x.1 o ho hi) ?_ (by rw[aaq,ZM];exact h')
     .rcases ZI.1 hy with h|h
      .exact Zv _ h
      .exact ZP _ (Y5 _ h)
     .rw[aap]at hp ⊢;exact⟨hp.1,(aaf.1 hp.2.1).2,λy hy z hz=>hp.2.2 y hy z (Y5 _ hz)⟩
     .intro j hj;rw[hset x.1 (by omega)];split
      .next e=>
       subst e;refine⟨λ_=>⟨by have:=hS _ hx2;omega,λy hy=>?_⟩,λ_=>rfl⟩;rcases ZI.1 hy with h|h
       .have:=hpA y h;omega
       .have:=Yb y h;omega
      .next e=>
       rw[hL j hj];refine and_congr_right λ_=>⟨λh y hy=>?_,λh y hy=>?_⟩
       .rcases ZI.1 hy with h'|h'
        .exact h y (Zv _ h')
        .exact h y (ZP _ (Y5 _ h'))
       .rcases ZI.1 hy with h'|h'
        .exact h y (Zv _ h')
        .rcases Zl.1 h' with rfl|h'
         .exactλe'=>e e'.symm
         .exact h y (ZP _ h')
     .simp only[Y7,Y0]at hf ⊢;omega
    .obtain⟨y,hy,rfl⟩:=List.mem_map.1 hf;obtain⟨hy1,hy2⟩:=hF y (Zv _ hy);obtain⟨hys,_⟩:=Zd.1 hy1;rcases hfl x.1 o y.1 y.2 ho hy1 (hpA y hy) (.inr ⟨hx2,hy2⟩)with hb|hb
     .have:=((hL y.1 hys).1 (hsub y.1 hb)).2 y (Zv _ hy) rfl;exact this.elim
     .exact hb.2
   .have hge:k<=i:=by
     rcases Zp i k with h|h
     .have:=(hL i his).2 ⟨h,λx hx e=>UW ⟨x,hx,e⟩⟩;rw[hun]at this;cases this
     .exact h
    have hik:i=k:=by
     rcases Zp k i with h|h
     .exfalso;have hok:∃f,ops[k]? =some f:=⟨ops[k]'(by omega),by simp⟩;obtain⟨f,hof⟩:=hok;rcases hfl i o k f ho hof h (.inl (by omega))with hb|hb
      .have:=((hL k (by omega)).1 (hsub k hb)).1;omega
      .have:=hS _ hb.1;omega
     .omega
    subst hik;cases l with
    |nil=>have:=hl 0;rw[aaB,ho]at this;cases this
    |cons o' l=>
     have ho':ops[i]? =some o':=by simpa using(hl 0).symm
     rw[ho]at ho';cases ho';refine xH ?_ (CX hQ hO _ _ a w (λf hf=>?_) hw)
     .intro a' w' h';refine ih F l (i+1) _ a' w' (by omega) (by omega) (λj=>by have:=hl (j+1);simpa[Nat.add_assoc,Nat.add_comm 1 j]using this) (by simpa using hsz) hF hp ?_ (PV i o ho hi) (by omega) h';intro j hj;rw[hset i (by omega)];split
      .next e=>subst e;exact⟨λ_=>⟨by omega,λx hx e=>UW ⟨x,hx,e⟩⟩,λ_=>rfl⟩
      .next e=>rw[hL j hj];exact and_congr_left λ_=>by omega
     .obtain⟨y,hy,rfl⟩:=List.mem_map.1 hf;obtain⟨hy1,hy2⟩:=hF y hy;obtain⟨hys,_⟩:=Zd.1 hy1;have:=hS _ hy2;rcases hfl i o y.1 y.2 ho hy1 (by omega) (.inl hk)with hb|hb
      .exact(((hL y.1 hys).1 (hsub y.1 hb)).2 y hy rfl).elim
      .exact hb.2
end Go.Fw
namespace Go.Fw
open Go
variable {P:Program} {w0:World} {M:Nat->Prop} {T:Ext} {γ γ':Nat->Value} {st:St} {a:Act} {w w':World} {Θ:bJ} {Γ:dn}
def Kt:Op->Bool
 |.store _ _ _=>false
 |.call {callee:=.builtin .append,.. }|.call {callee:=.builtin .copy,.. }|.call {callee:=.builtin .clear,.. }=>false
 |_=>true
def Oh(m:List Nat)(o:Oper):Bool:=match o.op,o.guard with
 |.call {callee:=.builtin .append,args,.. },none=>match args.toList with
  |.tmp t::_=>ax m t
  |_=>false
 |_,_=>false
def madeBy(m:List Nat)(o:Oper):List Nat:=match o.op,o.dst with
 |.buildSlice _ _ _,some d=>d::m
 |.call {callee:=.builtin .append,.. },some d=>d::m
 |_,_=>m
def zD:List Nat->List Oper->Nat
 |_,[]=>0
 |m,o::r=>match Kt o.op||Oh m o with|true=>zD (madeBy m o) r+1|false=>0
def zF:List Nat->List Oper->Nat
 |_,[]=>0
 |m,o::r=>match Kt o.op||(Oh m o||jU o.op)with|true=>zF (madeBy m o) r+1|false=>0
def ML(m:List Nat)(o:Oper):List Nat:=match o.op,o.dst with
 |.call {callee:=.value (.func _),.. },some d=>d::m
 |_,_=>madeBy m o
def Et:List Nat->List Oper->Nat
 |_,[]=>0
 |m,o::r=>match Kt o.op||(Oh m o||jU o.op)with|true=>Et (ML m o) r+1|false=>0
def zG:Nat->List Oper->List (Nat×Nat)
 |_,[]=>[]
 |i,o::r=>match o.op with
  |.call {callee:=.builtin .append,args,.. }=>match args.toList with
   |.tmp t::_=>(i,t*64+1)::zG (i+1) r
   |_=>zG (i+1) r
  |_=>zG (i+1) r
def PW(R:Reg):Bool:=R.A.all λx=>match idxOf R.D (x.2 / 64) 0 with
 |some j=>(R.ms.getD x.1 0).testBit j
 |none=>false
theorem Ku{e q:Nat}:∀(A:List (Nat×Nat)),qh A e q=true->(e,q)∈A
 |[],h=>by cases h
 |(e',q')::r,h=>by
  rw[qh]at h;split at h
  .next hb=>rw[YZ]at hb;rw[YX hb.1,YX hb.2];exact Y6
  .exact Y5 _ (Ku r h)
theorem LJ{R:Reg}(h:PW R=true)(e q:Nat)(hm:qh R.A e q=true):∃j,idxOf R.D (q / 64) 0=some j/\(R.ms.getD e 0).testBit j=true:=by
 have:=Ze.1 h _ (Ku _ hm)
 grind
def qU:Nat->List Nat->Bool
 |_,[]=>true
 |i,m::r=>Nat.beq (m+1) (2 ^ i)&&qU (i+1) r
def PX(t0:Nat)(ms:List Nat):List Nat:=(List.range t0).filter λj=>!((ms.drop t0).all λm=>m.testBit j)
def Eu(ops:List Oper)(j i:Nat):Bool:=match ops[j]?,ops[i]? with
 |some f,some o=>passes f o
 |_,_=>false
def lateRow(ops:List Oper)(S:List Nat)(m i:Nat):Bool:=(List.range i).all λj=>m.testBit j||(ax S j&&Eu ops j i)
def Kv(ops:List Oper)(t0:Nat)(ms:List Nat)(S:List Nat):Bool:=
 (List.range ops.length).all λi=>match Nat.ble t0 i with
   |true=>Nat.blt (ms.getD i 0) (2 ^ i)&&lateRow ops S (ms.getD i 0) i
   |false=>match ax S i with
    |true=>S.all λj=>Nat.ble i j||((ms.getD i 0).testBit j||Eu ops j i)
    |false=>true
def wC(ops:List Oper)(t0:Nat)(ms:List Nat):Bool:=match qU t0 (ms.drop t0)with
 |true=>true
 |false=>Kv ops t0 ms (PX t0 ms)
def front(l:List Oper):Nat:=match wC l (zD [] l) (masks l [])with
 |true=>zD [] l
 |false=>match wC l (zF [] l) (masks l [])with|true=>zF [] l|false=>Et [] l
def Kw(l:List Oper):Bool:=l.all λo=>match o.guard with
 |some (g,_)=>match l[g]? with
  |some og=>og.dst.isSome
  |none=>false
 |none=>true
def MN(n:Nat)(l:List Oper):Bool:=l.all λo=>match o.dst with|some d=>Nat.blt d n|none=>true
def Ew(own:Nat->Bool):List Oper->List Nat
 |[]=>[]
 |o::r=>match JH o.op,o.dst with
  |true,some d=>match own d with|true=>Ew own r|false=>d::Ew own r
  |_,_=>Ew own r
def Gs(own:Nat->Bool)(l:List Oper)(s:St):St:=
 match Ew own l with
 |[]=>s
 |z=>s.freeze λo=>ax z (o / 64)&&!(Nat.beq (o%64) 0)
def Ak(d:Nat):List (Nat×Operand)->Bool
 |[]=>false
 |(_,.tmp t)::r=>Nat.beq t d||Ak d r
 |_::r=>Ak d r
def VU(l:List Oper)(d:Nat):Bool:=l.any λb=>match b.op,b.dst with
 |.build _ ps,some e=>Ak d ps.toList&&l.any λc=>match c.op with|.buildSlice _ _ qs=>Ak e qs.toList|_=>false
 |_,_=>false
def xI(l0:List Oper):List Oper->List Nat
 |[]=>[]
 |o::r=>match Aj o.op,o.dst with
  |true,some d=>match VU l0 d with|true=>d::xI l0 r|false=>xI l0 r
  |_,_=>xI l0 r
def TW(own:Nat->Bool)(l:List Oper):List Nat:=(Ew own l++xI l l).filter λd=>!((zG 0 l).any λx=>Nat.beq x.2 (d*64+1))
def gV(n:Nat)(own:Nat->Bool)(Γ:dn)(U:List Nat)(ops:List Oper):Reg:=⟨dstsOf n 0 (ops.take (front ops)),U,masks ops [],wu Γ 0 (ops.take (front ops)),zG 0 (ops.take (front ops)),n,TW own (ops.take (front ops))⟩
def uI(Θ:bJ)(Γ:dn)(own:Nat->Bool)(U:List Nat)(ops:List Oper)(K:St->Prop)(st:St):Prop:=
 match nodup (gV st.n own Γ U ops).D&&(MN st.n (ops.take (front ops))&&(wC ops (front ops) (gV st.n own Γ U ops).ms&&((gV st.n own Γ U ops).E.all (pz (gV st.n own Γ U ops).ms (gV st.n own Γ U ops).E)&&(PW (gV st.n own Γ U ops)&&Kw ops))))with
 |true=>je Θ Γ (gV st.n own Γ U ops) (aG (gV st.n own Γ U ops).D st) (λpath=>
   runs Θ Γ own ops K (ops.drop (front ops)) (Gs own (ops.take (front ops)) (after (aG (gV st.n own Γ U ops).D st) path λ_=>true))) 0 (ops.take (front ops)) []
 |false=>False
theorem Ib:∀(m:List Nat)(l:List Oper),zD m l<=l.length
 |_,[]=>Zg _
 |m,o::r=>by
  rw[zD];split
  .have:=Ib (madeBy m o) r;rw[Y0];omega
  .exact Zm _
theorem Ic:∀(m:List Nat)(l:List Oper),zF m l<=l.length
 |_,[]=>Zg _
 |m,o::r=>by
  rw[zF];split
  .have:=Ic (madeBy m o) r;rw[Y0];omega
  .exact Zm _
theorem Ie:∀(m:List Nat)(l:List Oper),Et m l<=l.length
 |_,[]=>Zg _
 |m,o::r=>by
  rw[Et];split
  .have:=Ie (ML m o) r;rw[Y0];omega
  .exact Zm _
theorem QU(l:List Oper):front l<=l.length:=by
 grind [front,Ib,Ic,Ie]
theorem IK{l:List Oper}(h:Kw l=true){i:Nat}{o:Oper}{g:Nat}{b:Bool}(ho:l[i]? =some o)(hg:o.guard=some (g,b)):∃og d,l[g]? =some og/\og.dst=some d:=by
 have:=Ze.1 h o (Zn ho)
 grind [Option.isSome_iff_exists]
theorem Ky{n:Nat}{l:List Oper}(h:MN n l=true){i:Nat}{o:Oper}{d:Nat}(ho:l[i]? =some o)(hd:o.dst=some d):d<n:=by
 have:=Ze.1 h o (Zn ho)
 simp_all
theorem BK:∀{l:List Nat}{k:Nat},qU k l=true->∀i m,l[i]? =some m->m+1=2 ^ (k+i)
 |[],_,_,i,m,hm=>by simp at hm
 |x::r,k,h,0,m,hm=>by
  grind [qU,Nat.eq_of_beq_eq_true]
 |x::r,k,h,i+1,m,hm=>by
  rw[qU,YZ]at h;have:=BK h.2 i m (by simpa using hm)
  grind
theorem zH:∀(l:List Oper)(acc:List Nat),(masks l acc).length=acc.length+l.length
 |[],acc=>by simp[masks]
 |o::r,acc=>by rw[masks,zH r];simp;omega
theorem Ey:∀{l:List Nat},nodup l=true->∀(i j:Nat)(x:Nat),l[i]? =some x->l[j]? =some x->i=j
 |[],_,i,j,x,hi,_=>by simp at hi
 |y::r,h,i,j,x,hi,hj=>by
  rw[nodup,YZ]at h;have hno:y ∉ r:=λhm=>by have:=iQ.2 hm;rw[this]at h;simp at h
  match i,j with
  |0,0=>rfl
  |0,j+1=>simp at hi hj;exact(hno (hi▸Zn hj)).elim
  |i+1,0=>simp at hi hj;exact(hno (hj▸Zn hi)).elim
  |i+1,j+1=>rw[Ey h.2 i j x hi hj]
theorem rX{n:Nat}:∀{l:List Oper}{k:Nat},(∀(i:Nat)(o:Oper),l[i]? =some o->∃d,jl n (k+i) o=some d)->∀(i:Nat)(o:Oper)(d:Nat),l[i]? =some o->jl n (k+i) o=some d->(dstsOf n k l)[i]? =some d
 |[],_,_,i,o,d,hi,_=>by simp at hi
 |x::r,k,h,i,o,d,hi,hd=>by
  obtain⟨e,he⟩:=h 0 x rfl;rw[aaB]at he;rw[dstsOf,he]
  match i with
  |0=>grind
  |i+1=>simp;exact rX (k:=k+1) (λj o' hj=>by rw[show k+1+j=k+(j+1) by omega];simp_all) i o d (by simpa using hi) (by grind)
theorem Kz{ops:List Oper}{S:List Nat}{m i:Nat}(h:lateRow ops S m i=true){j:Nat}(hj:j<i){o f:Oper}(ho:ops[i]? =some o)(hf:ops[j]? =some f):m.testBit j=true\/(ax S j=true/\passes f o=true):=by
 have:=Ze.1 h j (aat.2 hj)
 grind [Eu]
theorem yt{ops:List Oper}{t0:Nat}{ms S:List Nat}(h:Kv ops t0 ms S=true){i:Nat}{o:Oper}(ho:ops[i]? =some o):
 (t0<=i->ms.getD i 0<2 ^ i)/\∀{j:Nat}{f:Oper},ops[j]? =some f->j<i->t0<=i\/(ax S i=true/\ax S j=true)->(ms.getD i 0).testBit j=true\/(ax S j=true/\passes f o=true):=by
 obtain⟨hi,_⟩:=Y8.1 ho;have:=Ze.1 h i (aat.2 hi)
 grind [Nat.blt_eq,Kz,Nat.ble_eq_true_of_le,iQ,Eu,Nat.le_of_ble_eq_true]
theorem Ez(L:Nat->Bool):∀(n:Nat),((List.range n).filter λi=>!(L i)).length=oJ L n
 |0=>rfl
 |n+1=>by
  rw[List.range_succ,List.filter_append,Y7,Ez L n,oJ];cases h:L n
  .simp[h,Nat.add_comm]
  .simp[h]
theorem KA(L:Nat->Bool){t0:Nat}(h:∀i,t0<=i->L i=false):∀(n:Nat),t0<=n->oJ L n=oJ L t0+(n-t0)
 |0,hn=>by
  grind
 |n+1,hn=>by
  rcases Zp n t0 with h'|h'
  .have:t0=n+1:=by omega
   subst this;simp
  .rw[oJ,h n h',KA L h n h'];simp only;omega
structure Am(Θ:bJ)(Γ:dn)(w0:World)(M:Nat->Prop)(T:Ext)(st:St)(R:Reg)(ops:Array Oper)(t0:Nat)(listed:Array Bool)(path:List aQ)(γ:Nat->Value)(a:Act)(w:World):Prop where
 way:Way R ops t0 path
 size:listed.size=ops.size
 tail:∀i,t0<=i->listed.getD i false=false
 shut:∀i j,listed.getD i false=true->((masks ops.toList []).getD i 0).testBit j=true->listed.getD j false=true
 ok:∀j o x,ops[j]? =some o->path[j]? =some x->listed.getD j false=true->iF Θ Γ R (aG R.D st) path j o x
 rel:Rel w0 M T γ (after (aG R.D st) path λi=>listed.getD i false) a w
theorem PY{G:cu}(hE:iD P G Θ Γ w0 M){ops:Array Oper}{Q:Exit->Act->World->Prop}(hQ:∀c a w,¬Q (.panic c) a w)(hO:¬LetsOut Q){R:Reg}{t0:Nat}{K:List aQ->Prop}(ht0:t0<=ops.size)(hms:R.ms=masks ops.toList [])
 (Wy:R.n=st.n) (hDn:∀i o d,ops[i]? =some o->i<t0->o.dst=some d->d<st.n) (hgd:∀i o g b,ops[i]? =some o->i<t0->o.guard=some (g,b)->∃og d,ops[g]? =some og/\og.dst=some d) (hcmp:∀e∈R.E,pz R.ms R.E e=true) (hEi:∀j o',ops[j]? =some o'->j<t0->kM Γ o'.op=true->j∈R.E)
 (hA:∀e q,qh R.A e q=true->∃j,idxOf R.D (q / 64) 0=some j/\(R.ms.getD e 0).testBit j=true)
 (xG:∀ext:List aQ,ext.length<=t0->CV Θ Γ R (aG R.D st) (ops.toList.take t0) ext->(ext.length=t0->K ext)/\∀o,(ops.toList.take t0)[ext.length]? =some o->Enabled Θ Γ R (aG R.D st) ext ext.length o)
 {S:Nat->Prop} (hfl:∀i o j f,ops[i]? =some o->ops[j]? =some f->j<i->t0<=i\/(S i/\S j)->((masks ops.toList []).getD i 0).testBit j=true\/(S j/\passes f o=true)) (hS:∀j,S j->j<t0)
 (hlt:∀i o,ops[i]? =some o->(masks ops.toList []).getD i 0<2 ^ i)
 (hend:∀path γ' a' w',K path->path.length=t0->Rel w0 M T γ' (after (aG R.D st) path λ_=>true) a' w'->wpList P ops Q (ops.toList.drop t0) a' w'):
 ∀(fuel:Nat)(listed:Array Bool)(path:List aQ)(γ:Nat->Value)(a:Act)(w:World),Am Θ Γ w0 M T st R ops t0 listed path γ a w->
  oJ (λi=>listed.getD i false) ops.size<=fuel->wpAny P .any ops Q fuel listed a w:=by
 have FU:(ops.toList.take t0).length=t0:=by simp;omega
 have hget:∀j o,(ops.toList.take t0)[j]? =some o↔j<t0/\ops[j]? =some o:=λj o=>by
  grind
 have fin:∀(listed:Array Bool)(path:List aQ)(γ:Nat->Value)(a:Act)(w:World),Am Θ Γ w0 M T st R ops t0 listed path γ a w->
  (∀i,i<t0->listed.getD i false=true)->wpList P ops Q (ops.toList.drop t0) a w:=by
  intro listed path γ a w I hdone;have hR:=I.rel;have hK:K path:=by refine(xG path (by rw[I.way.len];omega) λi o x hi hx=>?_).1 I.way.len;obtain⟨h1,h2⟩:=(hget i o).1 hi;exact I.ok i o x h2 hx (hdone i h1)
  have hsame:after (aG R.D st) path (λi=>listed.getD i false)=after (aG R.D st) path λ_=>true:=by
   unfold after;have:∀(l:List aQ)(j:Nat),j+l.length<=t0->pick l j (λi=>listed.getD i false)=pick l j λ_=>true:=by
    intro l
    induction l with
    |nil=>intros;rfl
    |cons y l ih=>
     grind [pick]
   rw[this path 0 (by rw[I.way.len];omega)]
  rw[hsame]at hR;exact hend path γ a w hK I.way.len hR
 have step:∀(listed:Array Bool)(path:List aQ)(γ:Nat->Value)(a:Act)(w:World),Am Θ Γ w0 M T st R ops t0 listed path γ a w->∀(i:Nat)(o:Oper),ops[i]? =some o->i<t0->listed.getD i false=false->
  (∀j,((masks ops.toList []).getD i 0).testBit j=true->listed.getD j false=true)->∀(K':Act->World->Prop),
  (∀path' γ' a' w',Am Θ Γ w0 M T st R ops t0 (listed.setIfInBounds i true) path' γ' a' w'->K' a' w')->wpOp P ops Q i K' a w:=by
  intro listed path γ a w I i o ho hit hil hsub K' hK';obtain⟨W,hsz,htl,hcl,hok,hR⟩:=I;have hen:Enabled Θ Γ R (aG R.D st) path i o:=by
   obtain⟨ext,g1,g2,g3⟩:=fill hE.toEnvB (R:=R) (base:=aG R.D st) (front:=ops.toList.take t0) (path:=path) (L:=λi=>listed.getD i false)
    (λext hc o' ho'=>(xG ext (by
      grind) hc).2 o' ho')
    (λj o' x ho' hx hL=>hok j o' x ((hget j o').1 ho').2 hx hL) (by rw[W.len,FU]) (λj k hL hk=>hcl j k hL (by grind)) i (by omega)
   have:=(xG ext (by omega) g2).2 o ((hget _ o).2 ⟨by omega,by grind⟩);rw[g1]at this;refine this.agree λj hj=>?_
   grind [gU]
  have hset:∀j,(listed.setIfInBounds i true).getD j false=(if j=i then true else listed.getD j false):=by
   intro j;split
   .next e=>subst e;simp[Array.getD,show j<listed.size by omega]
   .next e=>exact getD_set_ne false (aas e)
  refine QO hE (L:=λi=>listed.getD i false) (L':=λj=>(listed.setIfInBounds i true).getD j false) W ht0 hit Wy hDn hgd hcmp hEi hA ho hen hok (λj k hL hk=>hcl j k hL (by grind)) (λj hj=>hsub j (by grind)) hil
   (by grind) (λj hj=>by grind) hR ?_
  intro x γ' a' w' ⟨y,hy,hxy⟩ hx hR';refine hK' (path.set i x) γ' a' w' ⟨W.set hy hxy,by simpa using hsz,?_,?_,?_,hR'⟩
  · grind
  .intro j k hj hk;rw[hset]at hj ⊢
   grind
  .intro j o' z ho' hz hL;obtain⟨YI,_⟩:=Y8.1 hy;by_cases e:j=i
   · grind
   .rw[Z5 (aas e)]at hz;rw[hset,if_neg e]at hL;refine(hok j o' z ho' hz hL).agree λk hk=>?_
    grind [List.getElem?_set_ne]
 have pend:∀(F:List (Nat×Oper))(listed:Array Bool)(path:List aQ)(γ:Nat->Value)(a:Act)(w:World),Am Θ Γ w0 M T st R ops t0 listed path γ a w->
  (∀x∈F,ops[x.1]? =some x.2/\x.1<t0)->F.Pairwise (λx y=>x.1<y.1)->(∀i,i<t0->(listed.getD i false=true↔∀x∈F,x.1≠i))->
  qR P ops Q (Q .normal) (F.map (·.2)++ops.toList.drop t0) a w:=by
  intro F
  induction F with
  |nil=>
   intro listed path γ a w I _ _ hL;rw[List.map_nil,List.nil_append,BJ]
   grind
  |cons x F ih=>
   intro listed path γ a w I hF hp hL;obtain⟨hx1,hx2⟩:=hF x Y6;have hpx:=(aaf.1 hp).1;have hun:listed.getD x.1 false=false:=by
    grind
   refine(wpOp_step hx1).1 (step listed path γ a w I x.1 x.2 hx1 hx2 hun (λj hj=>?_) _ λpath' γ' a' w' I'=>?_)
   · grind [gU]
   .refine ih _ path' γ' a' w' I' (λy hy=>hF y (Y5 _ hy)) (aaf.1 hp).2 λi hi=>?_;have hxs:x.1<listed.size:=by rw[I.size];exact(Zd.1 hx1).1
    by_cases e:i=x.1
    .subst e;refine⟨λ_ y hy=>by have:=hpx y hy;omega,λ_=>by simp[Array.getD,hxs]⟩
    .rw[getD_set_ne false (aas e),hL i hi];refine⟨λh y hy=>h y (Y5 _ hy),λh y hy=>?_⟩;rcases Zl.1 hy with rfl|hy
     .exactλe'=>e e'.symm
     .exact h y hy
 have late:∀(fuel:Nat)(listed:Array Bool)(path:List aQ)(γ:Nat->Value)(a:Act)(w:World),Am Θ Γ w0 M T st R ops t0 listed path γ a w->oJ (λi=>listed.getD i false) ops.size<=fuel->
  (∀i,i<t0->¬S i->listed.getD i false=true)->wpAny P .any ops Q fuel listed a w:=by
  intro fuel listed path γ a w I hf hd;have hcount:=KA (λi=>listed.getD i false) I.tail ops.size ht0;have hlen:=Ez (λi=>listed.getD i false) t0;have hmem:∀x,x∈((List.range t0).filter λi=>!(listed.getD i false)).map (λi=>(i,(ops[i]?).getD default))↔∃i,i<t0/\listed.getD i false=false/\(i,(ops[i]?).getD default)=x:=by intro x;simp only[List.mem_map,List.mem_filter,aat,Bool.not_eq_true',and_assoc]
  have UX:∀i,i<t0->ops[i]? =some ((ops[i]?).getD default):=λi hi=>by
   have:ops[i]? =some (ops[i]'(by omega)):=by simp
   rw[this];rfl
  have S9:(((List.range t0).filter λi=>!(listed.getD i false)).map (λi=>(i,(ops[i]?).getD default))).Pairwise (λx y=>x.1<y.1):=by rw[List.pairwise_map];exact(List.pairwise_lt_range (n:=t0)).filter _
  refine QS hQ hO hfl hS hlt fuel (((List.range t0).filter λi=>!(listed.getD i false)).map (λi=>(i,(ops[i]?).getD default))) (ops.toList.drop t0) t0 listed a w (Zg _) ht0 (λj=>by simp) I.size ?_ S9 ?_ I.shut ?_ ?_
  .intro x hx;obtain⟨i,h1,h2,rfl⟩:=(hmem x).1 hx;refine⟨UX i h1,aaA λhno=>?_⟩;have:=hd i h1 hno;rw[h2]at this;cases this
  .intro i hi;refine⟨λh=>⟨?_,λx hx e=>?_⟩,λ⟨h1,h2⟩=>?_⟩
   .rcases Zp i t0 with h'|h'
    .exact h'
    .rw[I.tail i h']at h;cases h
   .obtain⟨j,_,h2,rfl⟩:=(hmem x).1 hx;subst e;rw[h2]at h;cases h
   .cases hb:listed.getD i false with
    |true=>rfl
    |false=>exact(h2 _ ((hmem _).2 ⟨i,h1,hb,rfl⟩) rfl).elim
  .rw[ZF,hlen];omega
  .refine pend _ listed path γ a w I (λx hx=>?_) S9 λi hi=>⟨λh x hx e=>?_,λh=>?_⟩
   .obtain⟨i,h1,_,rfl⟩:=(hmem x).1 hx;exact⟨UX i h1,h1⟩
   .obtain⟨j,_,h2,rfl⟩:=(hmem x).1 hx;subst e;rw[h2]at h;cases h
   .cases hb:listed.getD i false with
    |true=>rfl
    |false=>exact(h _ ((hmem _).2 ⟨i,hi,hb,rfl⟩) rfl).elim
 intro fuel
 induction fuel with
 |zero=>
  intro listed path γ a w I hf;have hall:∀i,i<ops.size->listed.getD i false=true:=J9 (L:=λi=>listed.getD i false) ops.size (by omega);exact late 0 listed path γ a w I hf λi hi _=>hall i (by omega)
 |succ fuel ih=>
  intro listed path γ a w I hf;by_cases hdone:∀i,i<t0->¬S i->listed.getD i false=true
  .exact late (fuel+1) listed path γ a w I hf hdone
  .obtain⟨W,hsz,htl,hcl,hok,hR⟩:=id I;have hex:∃i,i<t0/\¬S i/\listed.getD i false=false:=by
    refine aaA λhno=>hdone λi hi hn=>?_;cases hl:listed.getD i false with
    |true=>rfl
    |false=>exact(hno ⟨i,hi,hn,hl⟩).elim
   obtain⟨i1,hi1,hS1,hl1⟩:=hex;obtain⟨i0,hi0,hl0,hmin⟩:=least (p:=λi=>listed.getD i false=false) t0 ⟨i1,hi1,hl1⟩;have PZ:i0∈Region.ready .any ops listed:=by
    have hisz:i0<ops.size:=by omega
    refine mr.2 ⟨ops[i0],by simp[hisz],by rw[uP (by omega)];exact hl0,λe he hb=>?_⟩;have hoi:ops.toList[i0]? =some ops[i0]:=by simp[hisz]
    have Og:=HY hoi he hb;have UU:e.on<i0:=by
     rcases Zp e.on i0 with h|h
     .exact h
     .rw[gU (hlt i0 ops[i0] (by simp[hisz])) h]at Og;cases Og
    cases hl:listed.getD e.on false with
    |true=>rfl
    |false=>exact(hmin e.on UU hl).elim
   refine⟨λh=>(by rw[h]at PZ;cases PZ),λi hi=>?_⟩;obtain⟨o,ho,hn,hall⟩:=mr.1 hi;obtain⟨hisz,_⟩:=Zd.1 ho;have hil:listed.getD i false=false:=by rw[← uP (by omega)];exact hn
   have hsub:=zC hcl ho hi;have hit:i<t0:=by
    rcases Zp i t0 with h|h
    .exact h
    .have ho1:ops[i1]? =some (ops[i1]'(by omega)):=by simp
     rcases hfl i o i1 _ ho ho1 (by omega) (.inl h)with hb|hb
     .have:=hsub i1 hb;rw[hl1]at this;cases this
     .exact(hS1 hb.1).elim
   refine step listed path γ a w I i o ho hit hil hsub _ λpath' γ' a' w' I'=>ih _ path' γ' a' w' I' ?_;have hset:∀j,(listed.setIfInBounds i true).getD j false=(if j=i then true else listed.getD j false):=by
    intro j;split
    .next e=>subst e;simp[Array.getD,show j<listed.size by omega]
    .next e=>exact getD_set_ne false (aas e)
   have:=MJ (L:=λi=>listed.getD i false) (L':=λj=>(listed.setIfInBounds i true).getD j false) (i:=i) hil (by simp only[hset,if_true]) (λj hj=>by simp only[hset,if_neg hj]) ops.size hisz;omega
theorem BL{ops:Array Oper}{t0:Nat}(h:qU t0 ((masks ops.toList []).drop t0)=true){i:Nat}{o:Oper}(ho:ops[i]? =some o)(hi:t0<=i):(masks ops.toList []).getD i 0+1=2 ^ i:=by
 have hml:(masks ops.toList []).length=ops.size:=by rw[zH];simp
 have hg:((masks ops.toList []).drop t0)[i-t0]? =some ((masks ops.toList []).getD i 0):=by
  grind
 grind [BK]
theorem Pn{G:cu}(hE:iD P G Θ Γ w0 M)(hm:P.follows .mixedOrders=true){own:Nat->Bool}{U:List Nat}{id:Nat}{ops:Array Oper}{K:St->Prop}{Q:Exit->Act->World->Prop}(h:Rel w0 M T γ st a w)
 (hr:uI Θ Γ own U ops.toList K st) (hn:∀s γ' a' w',K s->Rel w0 M T γ' s a' w'->Q .normal a' w'):(Code.region id ops true).wp P Q a w:=by
 unfold uI at hr;split at hr
 case h_2=>exact hr.elim
 next hb=>
 rw[YZ,YZ,YZ,YZ]at hb;obtain⟨hnd,hlt,htl,hcmp,I9⟩:=hb;rw[YZ]at I9;obtain⟨I9,XJ⟩:=I9;have ht0:front ops.toList<=ops.size:=by grind [QU]
 have hfl:(ops.toList.take (front ops.toList)).length=front ops.toList:=by simp;omega
 have xG:=λ(ext:List aQ)(hle:ext.length<=front ops.toList)(hc:CV Θ Γ (gV st.n own Γ U ops.toList) (aG (gV st.n own Γ U ops.toList).D st) (ops.toList.take (front ops.toList)) ext)=>
  BA (ops.toList.take (front ops.toList)) [] [] ext rfl (by omega) hr (by simpa using hc)
 simp only[List.nil_append,Y4,ZC,hfl]at xG;have hall:∃ext:List aQ,ext.length=front ops.toList/\CV Θ Γ (gV st.n own Γ U ops.toList) (aG (gV st.n own Γ U ops.toList).D st) (ops.toList.take (front ops.toList)) ext:=by
  obtain⟨ext,g1,g2,_⟩:=fill hE.toEnvB (R:=gV st.n own Γ U ops.toList) (base:=aG (gV st.n own Γ U ops.toList).D st) (front:=ops.toList.take (front ops.toList)) (path:=List.replicate (front ops.toList) (skipped 0)) (L:=λ_=>false)
   (λext hc o' ho'=>(xG ext (by
     grind) hc).2 o' ho') (λ_ _ _ _ _ h=>by cases h) (by simp[hfl]) (λ_ _ h=>by cases h) (front ops.toList) (by omega)
  grind
 obtain⟨UY,hl0,hc0⟩:=hall;have UZ:∀i,i<front ops.toList->∃o d,ops[i]? =some o/\(ops.toList.take (front ops.toList))[i]? =some o/\jl st.n i o=some d/\(gV st.n own Γ U ops.toList).ms.getD i 0<2 ^ i:=by
  intro i hi;have ho:ops[i]? =some (ops[i]'(by omega)):=by simp
  have ho2:(ops.toList.take (front ops.toList))[i]? =some (ops[i]'(by omega)):=by grind
  have hx:UY[i]? =some (UY[i]'(by omega)):=by simp
  obtain⟨h1,h2,_⟩:=hc0 i _ _ ho2 hx;exact⟨_,_,ho,ho2,h1,h2⟩
 have hdst:∀(i:Nat)(o:Oper),(ops.toList.take (front ops.toList))[i]? =some o->∃d,jl st.n (0+i) o=some d:=by
  grind
 have hbound:∀i o,ops[i]? =some o->front ops.toList<=i->(masks ops.toList []).getD i 0<2 ^ i:=by
  intro i o ho hi;unfold wC at htl;split at htl
  .next hb=>have:=BL (show qU _ ((masks ops.toList []).drop _)=true from hb) ho hi;omega
  .exact(yt htl (by simpa using ho)).1 hi
 have VX:∃S:Nat->Prop,(∀i o j f,ops[i]? =some o->ops[j]? =some f->j<i->front ops.toList<=i\/(S i/\S j)->((masks ops.toList []).getD i 0).testBit j=true\/(S j/\passes f o=true))/\∀j,S j->j<front ops.toList:=by
  unfold wC at htl;split at htl
  .next hb=>
   refine⟨λ_=>False,λi o j f ho _ hj hi=>.inl ?_,λ_ h=>h.elim⟩;rcases hi with hi|hi
   .have h1:=BL (show qU _ ((masks ops.toList []).drop _)=true from hb) ho hi;have h2:(masks ops.toList []).getD i 0=2 ^ i-1:=by omega
    grind
   grind
  .refine⟨λj=>ax (PX (front ops.toList) (gV st.n own Γ U ops.toList).ms) j=true,λi o j f ho hf hj hi=>?_,λj hj=>?_⟩
   .exact(yt htl (by simpa using ho)).2 (by simpa using hf) hj hi
   .have:=iQ.1 hj;exact aat.1 (List.mem_filter.1 this).1
 obtain⟨S,Xc,hS⟩:=VX
 let Oi:List aQ:=(ops.toList.take (front ops.toList)).mapIdx λi o=>skipped ((jl st.n i o).getD 0)
 have hp0:∀(i:Nat)(x:aQ),Oi[i]? =some x->∃o,(ops.toList.take (front ops.toList))[i]? =some o/\jl st.n (0+i) o=some x.d:=by
  grind [skipped]
 have W0:Way (gV st.n own Γ U ops.toList) ops (front ops.toList) Oi:=by
  refine⟨by grind,λi o x ho hx=>?_,λx hx=>?_,λi j x y hx hy hxy=>?_,λi x hx=>?_⟩
  .obtain⟨o',h1,h2⟩:=hp0 i x hx;obtain⟨hi,_⟩:=Y8.1 h1;rw[List.getElem?_take_of_lt (by omega)]at h1;have:ops[i]? =some o':=by simpa using h1
   rw[ho]at this;cases this;rw[ZC]at h2;exact h2
  .obtain⟨i,hi⟩:=Z4 hx;obtain⟨o',h1,h2⟩:=hp0 i x hi;exact iQ.2 (Eo _ 0 i h1 h2)
  .obtain⟨o1,h1,h2⟩:=hp0 i x hx;obtain⟨o2,h3,h4⟩:=hp0 j y hy;have g1:=rX hdst i o1 x.d h1 h2;have g2:=rX hdst j o2 y.d h3 h4;rw[← hxy]at g2;exact Ey hnd i j x.d g1 g2
  .obtain⟨o1,h1,h2⟩:=hp0 i x hx;have:=H9 _ 0 i x.d hnd (rX hdst i o1 x.d h1 h2)
   grind
 refine Code.wp_mono (Q:=λe a' w'=>match e with|.normal=>∃s γ',K s/\Rel w0 M T γ' s a' w'|_=>False) (λe a' w' he=>?_) ?_
 · grind
 refine wp_region_any hm ?_;refine PY (w0:=w0) (M:=M) (T:=T) hE (λ_ _ _ h=>h) (λ⟨_,_,h⟩=>h) (R:=gV st.n own Γ U ops.toList) (t0:=front ops.toList) ht0 rfl rfl ?_ (λi o g b ho _ hg=>by
  grind [IK]) (λe he=>Ze.1 hcmp e he) ?_ (LJ I9) xG Xc hS ?_ ?_ ops.size _ Oi γ _ _
  ⟨W0,by simp,?_,?_,?_,?_⟩ ?_
 .intro i o d ho hi hd;exact Ky hlt (i:=i) (by grind) hd
 .intro j o' ho' hj he;have:=Es (Γ:=Γ) (ops.toList.take (front ops.toList)) 0 j o' (by grind) he;rw[ZC]at this;exact this
 .intro i o ho;rcases Zp i (front ops.toList)with hi|hi
  .obtain⟨_,_,_,_,_,h⟩:=UZ i hi;exact h
  grind
 .intro path γ' a' w' hK _ hR;have Yv:Rel w0 M T γ' (Gs own (ops.toList.take (front ops.toList)) (after (aG (gV st.n own Γ U ops.toList).D st) path λ_=>true)) a' w':=by
   unfold Gs;split
   .exact hR
   .exact hR.freeze _
  grind [rJ]
 .intro i _;simp[Array.getD]
 .intro i j hi;exfalso;simp[Array.getD]at hi
 .intro j o x _ _ hi;exfalso;simp[Array.getD]at hi
 .have:=(h.drew (w.drawn+1))|>λh=>QL h (gV st.n own Γ U ops.toList).D;rw[N9 (λi=>by simp[Array.getD])];exact this
 .have:∀n,oJ (λi=>(Array.replicate ops.size false).getD i false) n<=n:=by
   intro n
   induction n with
   |zero=>exact Zg _
   |succ n ih=>grind [oJ]
  exact this _
end Go.Fw
