import Derived.Test.YtkogcnaellmcdaaGreatFwB
namespace Go.Fw
open Go
variable {P:Program} {w0:World} {M:Nat->Prop} {T:Ext} {γ γ':Nat->Value} {st:St} {a:Act} {w w':World} {Θ:gI} {Γ:iT}
structure dA where
 d:Nat
 v:AV
 u:List (Nat×ay)
 δ:List (Nat×ay)
 k:List Nat
def zf(acc:List Nat):List Edge->Nat
 |[]=>0
 |e::r=>match Region.binds .any e with
  |true=>(2 ^ e.on|||acc.getD e.on 0)|||zf acc r
  |false=>zf acc r
def masks:List Oper->List Nat->List Nat
 |[],acc=>acc
 |o::r,acc=>masks r (acc++[zf acc o.after.toList])
def pick:List dA->Nat->(Nat->Bool)->List dA
 |[],_,_=>[]
 |x::r,j,m=>match m j with|true=>x::pick r (j+1) m|false=>pick r (j+1) m
def tX:List dA->Nat->AV->AV
 |[],_,b=>b
 |x::r,t,b=>match Nat.beq t x.d with|true=>x.v|false=>tX r t b
def lookO:List dA->Nat->Option ay->Option ay
 |[],_,b=>b
 |x::r,o,b=>match look x.δ o with|some y=>some y|none=>lookO r o b
def nN:List dA->Nat->Option ay
 |[],_=>none
 |x::r,o=>match nN r o with|some y=>some y|none=>look x.u o
def kF(base:St)(l:List dA):St:=
 {n:=base.n,tmps:=λt=>tX l t (base.tmps t),ah:=λo=>match nN l o with|some y=>some y|none=>lookO l o (base.ah o)}
def mZ:List dA->List Nat
 |[]=>[]
 |x::r=>x.k++mZ r
def o6(l:List Nat)(st:St):St:=match l with|[]=>st|l=>st.kill (aN l)
def after(base:St)(path:List dA)(m:Nat->Bool):St:=o6 (mZ (pick path 0 m)) (kF base (pick path 0 m))
def Cell.touch(S:Nat->Bool):Cell->Bool
 |.ref o=>S o
 |_=>false
def SV.touch(S:Nat->Bool):SV->Bool
 |.one c=>c.touch S
 |.agg cs=>cs.any (Cell.touch S)
def AV.touch(S:Nat->Bool):AV->Bool
 |.undef=>false
 |.sv v=>v.touch S
 |.kE vs=>vs.any (SV.touch S)
 |.dQ o _=>S o
 |.kM o _ _=>S o
 |.win o _ _=>S o
 |.mG _ _ _ _=>false
 |.dI cs _=>cs.any (Cell.touch S)
 |.fn _ caps=>caps.any λcs=>cs.any (Cell.touch S)
def ay.touch(S:Nat->Bool):ay->Bool
 |.var cs=>cs.any (Cell.touch S)
 |.arr _ _ _ _=>false
def St.YF(st:St)(L:List Nat):St:=match L with
 |[]=>st
 |L=>{n:=st.n,tmps:=λt=>match (st.tmps t).touch (aN L)with|true=>.undef|false=>st.tmps t,
      ah:=λo=>match aN L o with|true=>none|false=>match st.ah o with|some x=>(match x.touch (aN L)with|true=>none|false=>some x)|none=>none}
def abh(ms:List Nat)(i:Nat):List (Nat×Nat)->List Nat
 |[]=>[]
 |(e,q)::r=>match Nat.beq e i||((ms.getD i 0).testBit e||(ms.getD e 0).testBit i)with|true=>abh ms i r|false=>q::abh ms i r
def EL:List (Nat×Nat)->Nat->Nat->Bool
 |[],_,_=>false
 |(e,q)::r,i,o=>match Nat.beq e i&&Nat.beq q o with|true=>true|false=>EL r i o
def TR:Op->Bool
 |.call {callee:=.builtin .append,.. }=>true
 |_=>false
def uI:Op->Bool
 |.store _ _ _=>true
 |_=>false
def ql(n i:Nat)(o:Oper):Option Nat:=match o.dst with
 |some d=>some d
 |none=>match uI o.op with|true=>some (n+i)|false=>none
def dstsOf(n:Nat):Nat->List Oper->List Nat
 |_,[]=>[]
 |i,o::r=>match ql n i o with|some d=>d::dstsOf n (i+1) r|none=>dstsOf n (i+1) r
def nodup:List Nat->Bool
 |[]=>true
 |x::r=>!(aN r x)&&nodup r
def bF(D:List Nat)(st:St):St:=st.kill λo=>aN D (o / 64)
def Af(d:Nat)(δ:List (Nat×ay)):Bool:=δ.all λx=>Nat.beq (x.1 / 64) d
def St.hide(st:St)(U:List Nat):St:={st with ah:=λo=>match aN U o with|true=>none|false=>st.ah o}
def wz(Γ:iT)(o:Op):Bool:=match o with
 |.call {callee:=.value (.func f),.. }=>match Γ f with|some (.eff _ _)=>true|_=>false
 |.store _ _ _=>true
 |_=>false
def Lu(Γ:iT):Nat->List Oper->List Nat
 |_,[]=>[]
 |i,o::r=>match wz Γ o.op with|true=>i::Lu Γ (i+1) r|false=>Lu Γ (i+1) r
def DW(ms:List Nat)(E:List Nat)(i:Nat):Bool:=E.all λe=>Nat.beq e i||((ms.getD i 0).testBit e||(ms.getD e 0).testBit i)
def qm(st:St)(m:Mode)(x:AV):Option (Arg×Option Nat):=
 match m with
 |.val=>match lS st [x]with
  |some [a]=>some (a,none)
  |_=>none
 |m=>oD st m x
def uJ(st:St):List Mode->List AV->Option (List Arg×List (Option Nat))
 |_,[]=>some ([],[])
 |ms,x::xs=>match qm st (ms.headD .val) x,uJ st ms.tail xs with
  |some (a,o),some (as,os)=>some (a::as,o::os)
  |_,_=>none
def Arg.alB:Arg->Bool
 |.own _ _ _=>false
 |_=>true
def LC(Γ:iT)(st:St):Op->Option (Prop×J5×(List (Option Nat)×Bool))
 |.call {callee:=.value (.func f),args,.. }=>match Γ f with
  |some (.eff ms con)=>match uJ st ms (handed st args.toList [])with
   |some (vs,os)=>match Dz (Bj ms (handed st args.toList []))||vs.all Arg.alB with
    |true=>match con vs with
     |some (p,ρ)=>some (p,ρ,(os,!(Dz (Bj ms (handed st args.toList [])))))
     |none=>none
    |false=>none
   |none=>none
  |_=>none
 |_=>none
def Ip(Θ:gI)(st:St):Op->Option (List (Nat×ay))
 |.store t p x=>match st.ev x,Θ t,st.ev p with
  |.sv v,some ti,.dQ o off=>match Nat.beq v.cells.length ti.cells.len,st.ah o with
   |true,some (.var cs)=>match Nat.ble (off+v.cells.length) cs.length with
    |true=>some [(o,.var (splice cs off v.cells))]
    |false=>none
   |_,_=>none
  |_,_,_=>none
 |_=>none
def ahx(D U:List Nat)(υ:List (Nat×ay)):Bool:=υ.all λy=>aN U y.1&&!(aN D (y.1 / 64))
def QN:List (Option Nat)->List Eff->Bool
 |[],_=>true
 |none::os,aH=>QN os aH.tail
 |some _::os,aH=>match aH.head? with|some (.var _)=>QN os aH.tail|_=>false
def DX(D U:List Nat)(d:Nat)(st:St)(os:List (Option Nat)×Bool)(out:Out)(aH:List Eff):Option (AV×List (Nat×ay)×List (Nat×ay)):=
 match uD os.1&&(Fv aH (out.take (d*64+1)).2&&(QN os.1 aH&&(Af d (out.take (d*64+1)).2&&(!os.2||(out.made&&Ig aH))))),lC st os.1 aH with
 |true,some υ=>match υ.all λy=>aN U y.1&&!(aN D (y.1 / 64))with
  |true=>some ((out.take (d*64+1)).1,υ,(out.take (d*64+1)).2)
  |false=>none
 |_,_=>none
structure Reg where
 D:List Nat
 U:List Nat
 ms:List Nat
 E:List Nat
 A:List (Nat×Nat)
 n:Nat
 F:List Nat
def kV(F:List Nat)(x:dA):dA:=match aN F x.d,x.v,x.u,x.δ with
 |true,.sv (.one (.ref q)),[],[(q',.arr e r l fr)]=>match Nat.beq q q' with
  |true=>⟨x.d,.sv (.one (.sl e r l fr)),[],[],x.k⟩
  |false=>x
 |_,_,_,_=>x
theorem mD(F:List Nat)(x:dA):(kV F x).d=x.d/\(kV F x).u=x.u/\(kV F x).k=x.k/\∀y∈(kV F x).δ,y∈x.δ:=by
 grind [kV]
def idxOf:List Nat->Nat->Nat->Option Nat
 |[],_,_=>none
 |x::r,t,j=>match Nat.beq t x with|true=>some j|false=>idxOf r t (j+1)
def Wq(R:Reg)(i t:Nat):Bool:=match idxOf R.D t 0 with
 |some j=>!(Nat.beq j i||((R.ms.getD i 0).testBit j||(R.ms.getD j 0).testBit i))
 |none=>false
def St.veil(st:St)(R:Reg)(i:Nat):St:={st with tmps:=λt=>match Wq R i t with|true=>.undef|false=>st.tmps t}
def viewAt(R:Reg)(base:St)(acc:List dA)(i:Nat):St:=
 ((match DW R.ms R.E i with
 |true=>after base acc (R.ms.getD i 0).testBit
 |false=>(after base acc (R.ms.getD i 0).testBit).hide R.U).veil R i).YF (abh R.ms i R.A)
def Ho(Θ:gI)(Γ:iT)(R:Reg)(base:St)(i:Nat)(o:Oper)(d:Nat)(acc:List dA)(K:List dA->Prop):Prop:=
 match wz Γ o.op with
 |true=>match uI o.op with
  |true=>match Ip Θ (viewAt R base acc i) o.op with
   |some υ=>match ahx R.D R.U υ with
    |true=>K (acc++[⟨d,.kE [],υ,[],[]⟩])
    |false=>False
   |none=>False
  |false=>match LC Γ (viewAt R base acc i) o.op with
   |some (p,ρ,os)=>p/\∀t,ρ.R t->match DX R.D R.U d (viewAt R base acc i) os (ρ.out t) (ρ.aH t)with
    |some (v,υ,δ)=>K (acc++[⟨d,v,υ,δ,[]⟩])
    |none=>False
   |none=>False
 |false=>match TR o.op with
  |true=>match Bo Θ (viewAt R base acc i) o.op with
   |some (p,q,x)=>match aN R.D (q / 64)&&(!(Nat.beq (q / 64) d)&&EL R.A i q)with
    |true=>p/\K (acc++[kV R.F ⟨d,.sv (.one (.ref (d*64+1))),[],[(d*64+1,x)],[q]⟩])
    |false=>False
   |none=>False
  |false=>match calm Θ Γ d (viewAt R base acc i) o.op with
   |some (p,v,δ)=>match Af d δ,quiet (viewAt R base acc i) o.op with
    |true,true=>K (acc++[kV R.F ⟨d,v,[],δ,[]⟩])
    |true,false=>p/\K (acc++[kV R.F ⟨d,v,[],δ,[]⟩])
    |false,_=>False
   |none=>False
def fix(g:Nat)(b:Bool)(acc:List dA):List dA:=
 match acc[g]? with
 |some x=>acc.set g {x with v:=.sv (.one (.bool b))}
 |none=>acc
def skipped(d:Nat):dA:=⟨d,.kE [],[],[],[]⟩
def pX(Θ:gI)(Γ:iT)(R:Reg)(base:St)(K:List dA->Prop):Nat->List Oper->List dA->Prop
 |_,[],acc=>K acc
 |i,o::r,acc=>match ql R.n i o,Nat.blt (R.ms.getD i 0) (2 ^ i)with
  |some d,true=>match o.guard with
   |none=>Ho Θ Γ R base i o d acc (pX Θ Γ R base K (i+1) r)
   |some (g,b)=>match (R.ms.getD i 0).testBit g,acc[g]? with
    |true,some x=>match x.v with
     |.sv (.one (.bool c))=>cond c
      (match b with
        |true=>Ho Θ Γ R base i o d (fix g true acc) (pX Θ Γ R base K (i+1) r)
        |false=>pX Θ Γ R base K (i+1) r (fix g true acc++[skipped d]))
      (match b with
        |false=>Ho Θ Γ R base i o d (fix g false acc) (pX Θ Γ R base K (i+1) r)
        |true=>pX Θ Γ R base K (i+1) r (fix g false acc++[skipped d]))
     |.kE _=>pX Θ Γ R base K (i+1) r (acc++[skipped d])
     |_=>False
    |_,_=>False
  |_,_=>False
def Wanted(R:Reg)(path:List dA)(i:Nat)(o:Oper):Prop:=
 o.guard=none\/∃g b y,o.guard=some (g,b)/\(R.ms.getD i 0).testBit g=true/\path[g]? =some y/\y.v=.sv (.one (.bool b))
def Ws(R:Reg)(path:List dA)(i:Nat)(o:Oper):Prop:=
 ∃g b y,o.guard=some (g,b)/\(R.ms.getD i 0).testBit g=true/\path[g]? =some y/\((∃c,y.v=.sv (.one (.bool c))/\c≠b)\/∃vs,y.v=.kE vs)
def oH(Θ:gI)(Γ:iT)(R:Reg)(base:St)(path:List dA)(i:Nat)(o:Oper)(x:dA):Prop:=
 ql R.n i o=some x.d/\(R.ms.getD i 0)<2 ^ i/\
 ((Wanted R path i o/\
    ((wz Γ o.op=false/\TR o.op=false/\∃p v δ,calm Θ Γ x.d (viewAt R base path i) o.op=some (p,v,δ)/\p/\Af x.d δ=true/\x=kV R.F ⟨x.d,v,[],δ,[]⟩)\/
     (wz Γ o.op=false/\TR o.op=true/\∃p q y,Bo Θ (viewAt R base path i) o.op=some (p,q,y)/\p/\(aN R.D (q / 64)=true/\q / 64≠x.d/\EL R.A i q=true)/\
       x=kV R.F ⟨x.d,.sv (.one (.ref (x.d*64+1))),[],[(x.d*64+1,y)],[q]⟩)\/
     (wz Γ o.op=true/\uI o.op=true/\∃υ,Ip Θ (viewAt R base path i) o.op=some υ/\ahx R.D R.U υ=true/\x=⟨x.d,.kE [],υ,[],[]⟩)\/
     ((wz Γ o.op=true/\uI o.op=false)/\x.k=[]/\∃p ρ os t,LC Γ (viewAt R base path i) o.op=some (p,ρ,os)/\p/\ρ.R t/\
        (∀t,ρ.R t->∃r,DX R.D R.U x.d (viewAt R base path i) os (ρ.out t) (ρ.aH t)=some r)/\
        DX R.D R.U x.d (viewAt R base path i) os (ρ.out t) (ρ.aH t)=some (x.v,x.u,x.δ))))\/
  (Ws R path i o/\x=skipped x.d))
def Enabled(Θ:gI)(Γ:iT)(R:Reg)(base:St)(path:List dA)(i:Nat)(o:Oper):Prop:=
 ∃d,ql R.n i o=some d/\(R.ms.getD i 0)<2 ^ i/\
 ((Wanted R path i o/\
    ((wz Γ o.op=false/\TR o.op=false/\∃p v δ,calm Θ Γ d (viewAt R base path i) o.op=some (p,v,δ)/\p/\Af d δ=true)\/
     (wz Γ o.op=false/\TR o.op=true/\∃p q y,Bo Θ (viewAt R base path i) o.op=some (p,q,y)/\p/\(aN R.D (q / 64)=true/\q / 64≠d/\EL R.A i q=true))\/
     (wz Γ o.op=true/\uI o.op=true/\∃υ,Ip Θ (viewAt R base path i) o.op=some υ/\ahx R.D R.U υ=true)\/
     ((wz Γ o.op=true/\uI o.op=false)/\∃p ρ os,LC Γ (viewAt R base path i) o.op=some (p,ρ,os)/\p/\
        ∀t,ρ.R t->∃r,DX R.D R.U d (viewAt R base path i) os (ρ.out t) (ρ.aH t)=some r)))\/
  Ws R path i o)
theorem aeW{g:Nat}{b:Bool}{acc:List dA}{x:dA}(h:acc[g]? =some x)(hv:x.v=.sv (.one (.bool b))):fix g b acc=acc:=by
 unfold fix;rw[h];obtain⟨hlt,hx⟩:=apC.1 h;refine aqo λi=>?_;by_cases hi:i=g
 .cases x
  grind
 grind
theorem acR:∀(l:List dA)(j:Nat)(m:Nat->Bool),(∀i,j<=i->m i=false)->pick l j m=[]
 |[],_,_,_=>rfl
 |x::r,j,m,h=>by rw[pick,h j (apz _)];exact acR r (j+1) m λi hi=>h i (by omega)
theorem Kq(r:List dA)(m:Nat->Bool):∀(l:List dA)(j:Nat),pick (l++r) j m=pick l j m++pick r (j+l.length) m
 |[],j=>by simp[pick]
 |x::l,j=>by rw[aqF,pick,pick,Kq r m l (j+1),apH,show j+1+l.length=j+(l.length+1) by omega];cases m j<;>rfl
theorem GR{m:Nat->Bool}:∀(l l':List dA)(j:Nat),(∀i,m (j+i)=true->l[i]? =l'[i]?)->pick l j m=pick l' j m
 |[],[],_,_=>rfl
 |[],y::r,j,h=>by
  cases hm:m j with
  |true=>have:=h 0 (by simpa using hm);simp at this
  |false=>
   rw[pick,pick,hm];exact GR [] r (j+1) λi hi=>by have:=h (i+1) (by rw[show j+(i+1)=j+1+i by omega];exact hi);simpa using this
 |x::l,[],j,h=>by
  cases hm:m j with
  |true=>have:=h 0 (by simpa using hm);simp at this
  |false=>
   rw[pick,pick,hm];exact GR l [] (j+1) λi hi=>by have:=h (i+1) (by rw[show j+(i+1)=j+1+i by omega];exact hi);simpa using this
 |x::l,y::r,j,h=>by
  have ih:=GR l r (j+1) λi hi=>by have:=h (i+1) (by rw[show j+(i+1)=j+1+i by omega];exact hi);grind
  rw[pick,pick];cases hm:m j with
  |true=>have:=h 0 (by simpa using hm);grind
  |false=>exact ih
theorem lW{m:Nat->Bool}{x:dA}:∀(l:List dA)(j:Nat),x∈pick l j m↔∃i,m (j+i)=true/\l[i]? =some x
 |[],j=>by simp[pick]
 |y::l,j=>by
  have ih:=lW (m:=m) (x:=x) l (j+1);rw[pick];cases hm:m j with
  |true=>
   simp only[apN,ih];constructor
   .rintro(rfl|⟨i,h1,h2⟩)
    .exact⟨0,by simpa using hm,rfl⟩
    .exact⟨i+1,by grind,by simpa using h2⟩
   grind
  |false=>
   simp only[ih];constructor
   .rintro⟨i,h1,h2⟩;exact⟨i+1,by grind,by simpa using h2⟩
   grind
theorem nO{m i j:Nat}(h:m<2 ^ i)(hj:i<=j):m.testBit j=false:=
 Nat.testBit_lt_two_pow (ap4 h (Nat.pow_le_pow_right (by decide) hj))
theorem Iq{R:Reg}{base:St}{l l':List dA}{i:Nat}(h:∀j,(R.ms.getD i 0).testBit j=true->l[j]? =l'[j]?):viewAt R base l i=viewAt R base l' i:=by
 grind [viewAt,after,GR]
theorem oH.agree{R:Reg}{base:St}{l l':List dA}{i:Nat}{o:Oper}{x:dA}(h:∀j,(R.ms.getD i 0).testBit j=true->l[j]? =l'[j]?)(hr:oH Θ Γ R base l i o x):oH Θ Γ R base l' i o x:=by
 obtain⟨h1,h2,h3⟩:=hr;refine⟨h1,h2,?_⟩;rw[← Iq h];refine h3.imp (And.imp (Or.imp id ?_) id) (And.imp ?_ id)
 · grind
 .rintro⟨g,b,y,e1,e2,e3,e4⟩;exact⟨g,b,y,e1,e2,h g e2▸e3,e4⟩
theorem Enabled.agree{R:Reg}{base:St}{l l':List dA}{i:Nat}{o:Oper}(h:∀j,(R.ms.getD i 0).testBit j=true->l[j]? =l'[j]?)(hr:Enabled Θ Γ R base l i o):Enabled Θ Γ R base l' i o:=by
 obtain⟨d,h1,h2,h3⟩:=hr;refine⟨d,h1,h2,?_⟩;rw[← Iq h];refine h3.imp (And.imp (Or.imp id ?_) id) ?_
 · grind
 .rintro⟨g,b,y,e1,e2,e3,e4⟩;exact⟨g,b,y,e1,e2,h g e2▸e3,e4⟩
theorem o7{l:List Nat}{x:Nat}:aN l x=true↔x∈l:=by
 induction l with
 |nil=>simp[aN]
 |cons y l ih=>
  rw[aN,apN];cases hb:Nat.beq x y with
  |true=>simp_all
  |false=>
   simp only[ih];constructor
   .exact .inr
   .rintro(rfl|h)
    .simp at hb
    .exact h
theorem YG{n:Nat}{o:Oper}{d:Nat}:∀(l:List Oper)(i j:Nat),l[j]? =some o->ql n (i+j) o=some d->d∈dstsOf n i l
 |[],_,_,ho,_=>by simp at ho
 |x::r,i,0,ho,hd=>by
  grind [dstsOf]
 |x::r,i,j+1,ho,hd=>by
  have:=YG r (i+1) j (by simpa using ho) (by rw[show i+1+j=i+(j+1) by omega];exact hd);rw[dstsOf];split
  .exact apx _ this
  .exact this
def Wu(Θ:gI)(Γ:iT)(R:Reg)(base:St)(ops:List Oper)(path:List dA):Prop:=
 ∀i o x,ops[i]? =some o->path[i]? =some x->oH Θ Γ R base path i o x
theorem ahy{acc ext:List dA}{j:Nat}(h:j<acc.length):(acc++ext)[j]? =acc[j]? :=aqz h
theorem Vf{R:Reg}{base:St}{K:List dA->Prop}:∀(rest pre:List Oper)(acc ext:List dA),acc.length=pre.length->ext.length<=rest.length->
 pX Θ Γ R base K pre.length rest acc->Wu Θ Γ R base (pre++rest) (acc++ext)->
 (ext.length=rest.length->K (acc++ext))/\∀o,rest[ext.length]? =some o->Enabled Θ Γ R base (acc++ext) (pre.length+ext.length) o
 |[],pre,acc,ext,hl,hle,hr,hc=>by
  simp_all [pX]
 |o::rest,pre,acc,ext,hl,hle,hr,hc=>by
  rw[pX]at hr;split at hr
  case h_2=>exact hr.elim
  next d hd hm=>
  have hm':R.ms.getD pre.length 0<2 ^ pre.length:=by simp_all
  have key:(Wanted R acc pre.length o/\Ho Θ Γ R base pre.length o d acc (pX Θ Γ R base K (pre.length+1) rest))\/
   (Ws R acc pre.length o/\pX Θ Γ R base K (pre.length+1) rest (acc++[skipped d])):=by
   split at hr
   .next hg=>exact .inl ⟨.inl hg,hr⟩
   .next g b hg=>
    split at hr
    .next x hbit hx=>
     split at hr
     .next c hc'=>
      cases c
      .simp only[aq3,aeW hx hc']at hr;cases b
       .exact .inl ⟨.inr ⟨g,false,x,hg,hbit,hx,hc'⟩,hr⟩
       .exact .inr ⟨⟨g,true,x,hg,hbit,hx,.inl ⟨false,hc',by simp⟩⟩,hr⟩
      .simp only[arF,aeW hx hc']at hr;cases b
       .exact .inr ⟨⟨g,false,x,hg,hbit,hx,.inl ⟨true,hc',by simp⟩⟩,hr⟩
       .exact .inl ⟨.inr ⟨g,true,x,hg,hbit,hx,hc'⟩,hr⟩
     .next vs hc'=>exact .inr ⟨⟨g,b,x,hg,hbit,hx,.inr ⟨vs,hc'⟩⟩,hr⟩
     grind
    grind
  have aiI:∀ext:List dA,∀j,(R.ms.getD pre.length 0).testBit j=true->acc[j]? =(acc++ext)[j]? :=by
   grind [nO]
  cases ext with
  |nil=>
   refine⟨λh=>by simp at h,λo' ho'=>?_⟩;have:o'=o:=by grind
   subst this;rw[aqe];simp only[apV,aqR];refine⟨d,hd,hm',?_⟩;rcases key with⟨hw,hs⟩|⟨hw,_⟩
   .refine .inl ⟨hw,?_⟩;unfold Ho at hs;split at hs
    · grind
    grind [Nat.beq_refl,Nr]
   grind
  |cons x ext=>
   have hx:oH Θ Γ R base (acc++x::ext) pre.length o x:=by
    refine hc pre.length o x ?_ ?_
    · grind
    grind
   obtain⟨e1,_,e3⟩:=hx;have hxd:x.d=d:=by grind
   have amo:viewAt R base acc pre.length=viewAt R base (acc++x::ext) pre.length:=Iq (aiI _);have hnext:pX Θ Γ R base K (pre.length+1) rest (acc++[x]):=by
    rcases key with⟨hw,hs⟩|⟨hw,hs⟩
    .rcases e3 with⟨_,e3⟩|⟨⟨g,b,y,f1,f2,f3,f4⟩,_⟩
     .rw[← amo,hxd]at e3;unfold Ho at hs;rcases e3 with⟨he,ha,p,v,δ,hcalm,_,hn,hxx⟩|⟨he,ha,p,q,y,happ,_,_,hxx⟩|⟨he,hst,υ,hυ,hin,hxx⟩|⟨⟨he,hst⟩,hk,p,ρ,os,t,hrel,_,ht,_,hres⟩
      .rw[he,ha]at hs;simp only[hcalm]at hs;split at hs
       · grind
       · grind
       grind
      · grind
      · grind
      .rw[he,hst]at hs;simp only[hrel]at hs;have h2:=hs.2 t ht;simp only[hres]at h2;have ex:x=⟨d,x.v,x.u,x.δ,[]⟩:=by cases x;grind
       grind
     .exfalso;rw[← aiI _ g f2]at f3;rcases hw with hw|⟨g',b',y',k1,k2,k3,k4⟩
      · grind
      grind
    .rcases e3 with⟨hw',_⟩|⟨_,f1⟩
     .exfalso;obtain⟨g,b,y,k1,k2,k3,k4⟩:=hw;rcases hw' with hw'|⟨g',b',y',l1,l2,l3,l4⟩
      · grind
      grind
     grind
   have ih:=Vf rest (pre++[o]) (acc++[x]) ext (by simp[hl]) (by simpa using hle) (by simpa using hnext) (by simpa using hc);simp only[aqp,List.singleton_append,apT,apH,apV]at ih;refine⟨λh=>ih.1 (by simpa using h),λo' ho'=>?_⟩;have:=ih.2 o' (by simpa using ho');rw[show pre.length+(0+1)+ext.length=pre.length+(ext.length+1) by omega]at this;omega
theorem Ce(acc:List Nat)(j:Nat):∀(es:List Edge),(zf acc es).testBit j=true↔∃e∈es,Region.binds .any e=true/\(e.on=j\/(acc.getD e.on 0).testBit j=true)
 |[]=>by simp[zf]
 |e::r=>by
  rw[zf];cases hb:Region.binds .any e with
  |false=>
   simp only[Ce acc j r,apN];constructor
   .rintro⟨e',h1,h2⟩;exact⟨e',.inr h1,h2⟩
   .rintro⟨e',rfl|h1,h2⟩
    .rw[hb]at h2;cases h2.1
    .exact⟨e',h1,h2⟩
  |true=>
   simp only[Nat.testBit_or,aqK,Ce acc j r,apN,Nat.testBit_two_pow,apF];constructor
   .rintro((h|h)|⟨e',h1,h2⟩)
    .exact⟨e,.inl rfl,hb,.inl h⟩
    .exact⟨e,.inl rfl,hb,.inr h⟩
    .exact⟨e',.inr h1,h2⟩
   .rintro⟨e',rfl|h1,h2⟩
    .exact .inl h2.2
    .exact .inr ⟨e',h1,h2⟩
theorem Nz:∀(l:List Oper)(acc:List Nat)(i:Nat),i<acc.length->(masks l acc).getD i 0=acc.getD i 0
 |[],_,_,_=>rfl
 |o::r,acc,i,h=>by rw[masks,Nz r _ i (by simp;omega)];simp[apI,aqz h]
theorem NC:∀(l:List Oper)(acc:List Nat)(i:Nat)(o:Oper),l[i]? =some o->∃acc',(masks l acc).getD (acc.length+i) 0=zf acc' o.after.toList/\
 (∀j,j<acc'.length->(masks l acc).getD j 0=acc'.getD j 0)
 |[],_,_,_,h=>by simp at h
 |o::r,acc,0,o',h=>by
  refine⟨acc,?_,λj hj=>?_⟩
  · grind [masks,Nz]
  grind [Nz]
 |o::r,acc,i+1,o',h=>by
  obtain⟨acc',h1,h2⟩:=NC r (acc++[zf acc o.after.toList]) i o' (by simpa using h)
  grind [masks]
theorem acS{ops:List Oper}{i:Nat}{o:Oper}(ho:ops[i]? =some o){e:Edge}(he:e∈o.after)(hb:Region.binds .any e=true):((masks ops []).getD i 0).testBit e.on=true:=by
 obtain⟨acc',h1,_⟩:=NC ops [] i o ho
 grind [Ce]
theorem aiJ{ops:List Oper}{i:Nat}{o:Oper}(ho:ops[i]? =some o){j:Nat}(hj:((masks ops []).getD i 0).testBit j=true):
 ∃e∈o.after,Region.binds .any e=true/\(e.on=j\/((masks ops []).getD e.on 0).testBit j=true):=by
 obtain⟨acc',h1,h2⟩:=NC ops [] i o ho
 grind [Ce]
def Dc(L:Nat->Bool):Nat->Nat
 |0=>0
 |n+1=>(match L n with|true=>0|false=>1)+Dc L n
theorem acT{L L':Nat->Bool}:∀(n:Nat),(∀i,i<n->L i=L' i)->Dc L n=Dc L' n
 |0,_=>rfl
 |n+1,h=>by rw[Dc,Dc,h n (by omega),acT n λi hi=>h i (by omega)]
theorem agG{L L':Nat->Bool}{i:Nat}(hi:L i=false)(hi':L' i=true)(h:∀j,j≠i->L' j=L j):∀(n:Nat),i<n->Dc L' n+1=Dc L n
 |0,hn=>by omega
 |n+1,hn=>by
  rw[Dc,Dc];by_cases e:n=i
  · grind [acT]
  .have:=agG hi hi' h n (by omega)
   grind
theorem aeX{L:Nat->Bool}:∀(n:Nat),Dc L n=0->∀i,i<n->L i=true
 |0,_,i,hi=>by omega
 |n+1,h,i,hi=>by
  rw[Dc]at h;cases hl:L n with
  |false=>grind
  |true=>
   by_cases e:i=n
   · grind
   .exact aeX n (by omega) i (by omega)
theorem least{p:Nat->Prop}[DecidablePred p]:∀(n:Nat),(∃i,i<n/\p i)->∃i,i<n/\p i/\∀j,j<i->¬p j:=by
 intro n
 induction n using Nat.strongRecOn with
 |_ n ih=>
  rintro⟨i,hi,hp⟩;by_cases h:∃j,j<i/\p j
  · grind
  grind
structure Fits(D U:List Nat)(l:List dA):Prop where
 one:∀x∈l,∀y∈l,x.d=y.d->x=y
 mem:∀x∈l,aN D x.d=true
 new:∀x∈l,Af x.d x.δ=true
 upd:∀x∈l,∀o y,look x.u o=some y->aN U o=true/\aN D (o / 64)=false
theorem o8{d:Nat}{δ:List (Nat×ay)}(h:Af d δ=true){o:Nat}{y:ay}(hl:look δ o=some y):o / 64=d:=
 aps (apL.1 h _ (sN δ o y hl))
theorem YH{t:Nat}{b:AV}:∀(l:List dA),(∀x∈l,x.d≠t)->tX l t b=b
 |[],_=>rfl
 |x::r,h=>by
  rw[tX];have:Nat.beq t x.d=false:=by
   cases hb:Nat.beq t x.d with
   |false=>rfl
   |true=>exact(h x apB (aps hb).symm).elim
  rw[this];exact YH r λy hy=>h y (apx _ hy)
theorem QO{b:AV}{x:dA}:∀(l:List dA),x∈l->(∀y∈l,x.d=y.d->x=y)->tX l x.d b=x.v
 |[],h,_=>by cases h
 |y::r,h,hu=>by
  rw[tX];cases hb:Nat.beq x.d y.d with
  |true=>simp_all
  |false=>
   rcases apN.1 h with rfl|h
   .simp at hb
   .exact QO r h λz hz=>hu z (apx _ hz)
theorem GU{o:Nat}{b:Option ay}:∀(l:List dA),(∀x∈l,look x.δ o=none)->lookO l o b=b
 |[],_=>rfl
 |x::r,h=>by rw[lookO,h x apB];exact GU r λy hy=>h y (apx _ hy)
theorem acU{o:Nat}{b:Option ay}{x:dA}{z:ay}:∀(l:List dA),x∈l->look x.δ o=some z->(∀y∈l,∀z',look y.δ o=some z'->x=y)->lookO l o b=some z
 |[],h,_,_=>by cases h
 |y::r,h,hz,hu=>by
  rw[lookO];cases hy:look y.δ o with
  |some z'=>have:=hu y apB z' hy;subst this;rw[hz]at hy;exact hy.symm
  |none=>
   rcases apN.1 h with rfl|h
   .rw[hz]at hy;cases hy
   .exact acU r h hz λw hw=>hu w (apx _ hw)
theorem DY{o:Nat}:∀(l:List dA),(∀x∈l,look x.u o=none)->nN l o=none
 |[],_=>rfl
 |x::r,h=>by rw[nN,DY r λy hy=>h y (apx _ hy)];exact h x apB
theorem Ir{o:Nat}(r:List dA):∀(l:List dA),nN (l++r) o=match nN r o with|some y=>some y|none=>nN l o
 |[]=>by grind [nN]
 |x::l=>by rw[aqF,nN,Ir r l,nN];cases nN r o<;>rfl
theorem Vg{o:Nat}{m m':Nat->Bool}:∀(l:List dA)(j:Nat),(∀i x,l[i]? =some x->x.u≠[]->m (j+i)=m' (j+i))->nN (pick l j m) o=nN (pick l j m') o
 |[],_,_=>rfl
 |x::r,j,h=>by
  have ih:=Vg (o:=o) (m:=m) (m':=m') r (j+1) (λi y hi hy=>by
   have:=h (i+1) y (by simpa using hi) hy
   grind)
  have h0:=h 0 x rfl;rw[pick,pick];cases hm:m j<;>cases hm':m' j
  .exact ih
  · grind [nN,look]
  · grind [nN,look]
  grind [nN]
theorem Vh{x:dA}{t:Nat}{b:AV}(r:List dA):∀(l:List dA),(∀y∈l,y.d≠x.d)->tX (l++x::r) t b=match Nat.beq t x.d with|true=>x.v|false=>tX (l++r) t b
 |[],_=>by grind [tX]
 |y::l,h=>by
  rw[aqF,aqF,tX,Vh r l λz hz=>h z (apx _ hz),tX];cases hb:Nat.beq t y.d with
  |false=>rfl
  |true=>
   have:Nat.beq t x.d=false:=by
    cases hb2:Nat.beq t x.d with
    |false=>rfl
    |true=>exact(h y apB ((aps hb).symm.trans (aps hb2))).elim
   rw[this]
theorem Vj{x:dA}{o:Nat}{b:Option ay}(r:List dA):∀(l:List dA),(∀y∈l,∀z z',look y.δ o=some z->look x.δ o=some z'->False)->
 lookO (l++x::r) o b=match look x.δ o with|some y=>some y|none=>lookO (l++r) o b
 |[],_=>by grind [lookO]
 |y::l,h=>by
  rw[aqF,aqF,lookO,Vj r l λz hz=>h z (apx _ hz),lookO];cases hy:look y.δ o with
  |none=>rfl
  |some z=>
   cases hx:look x.δ o with
   |none=>rfl
   |some z'=>exact(h y apB z z' hy hx).elim
theorem agb{base:St}{D U:List Nat}{l r:List dA}{x:dA}(hf:Fits D U (l++x::r))(hne:∀y∈l++r,y.d≠x.d)(hu:x.u≠[]->∀y∈r,y.u=[]):
 (((kF base (l++r)).adds x.u).adds x.δ).set x.d x.v=kF base (l++x::r):=by
 have hx:x∈l++x::r:=by simp
 have hsub:∀y∈l++r,y∈l++x::r:=λy hy=>by
  grind
 have e1:(((kF base (l++r)).adds x.u).adds x.δ).set x.d x.v={n:=base.n,tmps:=λt=>match Nat.beq t x.d with|true=>x.v|false=>tX (l++r) t (base.tmps t),ah:=(((kF base (l++r)).adds x.u).adds x.δ).ah}:=by rw[TG,TG (kF base (l++r)) x.u];rfl
 rw[e1];congr 1
 · grind [Vh]
 · funext o
   rw[pG,pG];have hO:=Vj (x:=x) (o:=o) (b:=base.ah o) r l λy hy z z' hz hz'=>hne y (aqa _ hy) ((o8 (hf.new y (hsub y (aqa _ hy))) hz).symm.trans (o8 (hf.new x hx) hz'));have hU:nN (l++x::r) o=match look x.u o with|some y=>some y|none=>nN (l++r) o:=by
    rw[Ir,Ir,nN];by_cases hxu:x.u=[]
    · grind [look]
    .rw[DY r λy hy=>by rw[hu hxu y hy];rfl]
   rw[hO,hU];cases hδ:look x.δ o with
   |none=>cases look x.u o<;>rfl
   |some z=>
    have hod:aN D (o / 64)=true:=by rw[o8 (hf.new x hx) hδ];exact hf.mem x hx
    have nou:∀y∈l++x::r,look y.u o=none:=λy hy=>by
     cases hl:look y.u o with
     |none=>rfl
     |some w=>have:=(hf.upd y hy o w hl).2;grind
    grind [DY]
theorem o9{o:Nat}:∀(l:List dA),aN (mZ l) o=true↔∃x∈l,o∈x.k
 |[]=>by simp[mZ,aN]
 |x::r=>by
  rw[o7,mZ,apX,← o7 (l:=mZ r),o9 r];constructor
  .rintro(h|⟨y,hy,h⟩)
   .exact⟨x,apB,h⟩
   .exact⟨y,apx _ hy,h⟩
  .rintro⟨y,hy,h⟩;rcases apN.1 hy with rfl|hy
   .exact .inl h
   .exact .inr ⟨y,hy,h⟩
theorem Cell.uK{S:Nat->Bool}(h:∀o,S o=false):∀(c:Cell),c.kill S=c
 |.int _ _|.bool _|.str _|.nil|.sl _ _ _ _|.junk=>rfl
 |.ref o=>by grind [Cell.kill]
theorem Cell.nY{S S' S2:Nat->Bool}(h:∀o,S2 o=(S o||S' o)):∀(c:Cell),(c.kill S).kill S'=c.kill S2
 |.int _ _|.bool _|.str _|.nil|.sl _ _ _ _|.junk=>rfl
 |.ref o=>by
  grind [Cell.kill]
theorem yO{S S' S2:Nat->Bool}(h:∀o,S2 o=(S o||S' o))(cs:List Cell):(cs.map (Cell.kill S)).map (Cell.kill S')=cs.map (Cell.kill S2):=by
 rw[aqE]
 grind [List.map_congr_left,Cell.nY]
theorem SV.nY{S S' S2:Nat->Bool}(h:∀o,S2 o=(S o||S' o)):∀(c:SV),(c.kill S).kill S'=c.kill S2
 |.one c=>by grind [SV.kill,Cell.nY]
 |.agg cs=>by simp only[SV.kill,yO h]
theorem AV.nY{S S' S2:Nat->Bool}(h:∀o,S2 o=(S o||S' o)):∀(c:AV),(c.kill S).kill S'=c.kill S2
 |.undef=>rfl
 |.sv v=>by grind [AV.kill,SV.nY]
 |.kE vs=>by
  simp only[AV.kill];rw[aqE,List.map_congr_left λc _=>(show((SV.kill S') ∘ (SV.kill S)) c=SV.kill S2 c from SV.nY h c)]
 |.dQ o off=>by
  grind [AV.kill]
 |.kM o i off=>by
  grind [AV.kill]
 |.win o i off=>by
  grind [AV.kill]
 |.mG _ _ _ _=>rfl
 |.dI cs off=>by simp only[AV.kill,yO h]
 |.fn g caps=>by simp only[AV.kill];rw[aqE,List.map_congr_left λc _=>(show((List.map (Cell.kill S')) ∘ (List.map (Cell.kill S))) c=List.map (Cell.kill S2) c from yO h c)]
theorem ay.nY{S S' S2:Nat->Bool}(h:∀o,S2 o=(S o||S' o)):∀(c:ay),(c.kill S).kill S'=c.kill S2
 |.var cs=>by simp only[ay.kill,yO h]
 |.arr _ _ _ _=>rfl
theorem St.nY{S S' S2:Nat->Bool}(h:∀o,S2 o=(S o||S' o))(st:St):(st.kill S).kill S'=st.kill S2:=by
 simp only[St.kill,St.mk.injEq,ari];refine⟨funext λt=>AV.nY h _,funext λo=>?_⟩;simp only[h o];cases S' o with
 |true=>cases S o<;>rfl
 |false=>
  cases S o with
  |true=>rfl
  |false=>
   cases st.ah o with
   |none=>rfl
   |some y=>grind [ay.nY]
theorem Ci{S:Nat->Bool}(h:∀o,S o=false)(cs:List Cell):cs.map (Cell.kill S)=cs:=by rw[show Cell.kill S=id from funext (Cell.uK h),aqZ]
theorem SV.uK{S:Nat->Bool}(h:∀o,S o=false):∀(c:SV),c.kill S=c
 |.one c=>by grind [SV.kill,Cell.uK]
 |.agg cs=>by grind [SV.kill,Ci]
theorem AV.uK{S:Nat->Bool}(h:∀o,S o=false):∀(c:AV),c.kill S=c
 |.undef=>rfl
 |.sv v=>by grind [AV.kill,SV.uK]
 |.kE vs=>by simp only[AV.kill];rw[show SV.kill S=id from funext (SV.uK h),aqZ]
 |.dQ o off=>by grind [AV.kill]
 |.kM o i off=>by grind [AV.kill]
 |.win o i off=>by grind [AV.kill]
 |.mG _ _ _ _=>rfl
 |.dI cs off=>by grind [AV.kill,Ci]
 |.fn g caps=>by simp only[AV.kill];rw[show List.map (Cell.kill S)=id from funext (Ci h),aqZ]
theorem ay.uK{S:Nat->Bool}(h:∀o,S o=false):∀(c:ay),c.kill S=c
 |.var cs=>by grind [ay.kill,Ci]
 |.arr _ _ _ _=>rfl
theorem St.uK{S:Nat->Bool}(h:∀o,S o=false)(st:St):st.kill S=st:=by
 cases st with
 |mk n t o=>
  simp only[St.kill,St.mk.injEq,ari];refine⟨funext λq=>AV.uK h _,funext λq=>?_⟩;simp only[h q];cases o q with
  |none=>rfl
  |some y=>grind [ay.uK]
theorem lX(l:List Nat)(st:St):o6 l st=st.kill (aN l):=by
 cases l with
 |nil=>exact(St.uK (λ_=>rfl) st).symm
 |cons=>rfl
theorem Rel.o6(h:Rel w0 M T γ st a w)(l:List Nat):Rel w0 M T γ (o6 l st) a w:=by rw[lX];exact h.kill _
theorem Cell.qo{X:V}{S:Nat->Bool}(h:∀o,S o=true->X.ah o=none):∀(c:Cell)(v:Value),aK X c v->c.kill S=c
 |.int _ _,_,_|.bool _,_,_|.str _,_,_|.nil,_,_|.sl _ _ _ _,_,_|.junk,_,_=>rfl
 |.ref o,v,⟨⟨e,r,l,fr,ho⟩,_⟩=>by
  grind [Cell.kill]
theorem uM{X:V}{S:Nat->Bool}(h:∀o,S o=true->X.ah o=none):∀(cs:List Cell)(vs:List Value),ai X cs vs->cs.map (Cell.kill S)=cs
 |[],[],_=>rfl
 |c::cs,v::vs,H=>by rw[apP,Cell.qo h c v H.1,uM h cs vs H.2]
 |[],_::_,H|_::_,[],H=>by cases H
theorem SV.qo{X:V}{S:Nat->Bool}(h:∀o,S o=true->X.ah o=none):∀(c:SV)(v:Value),dm X c v->c.kill S=c
 |.one c,v,H=>by rw[SV.kill,Cell.qo h c v H]
 |.agg cs,v,⟨vs,_,H⟩=>by grind [SV.kill,uM]
theorem QS{X:V}{S:Nat->Bool}(h:∀o,S o=true->X.ah o=none):∀(cs:List SV)(vs:List Value),dw X cs vs->cs.map (SV.kill S)=cs
 |[],[],_=>rfl
 |c::cs,v::vs,H=>by rw[apP,SV.qo h c v H.1,QS h cs vs H.2]
 |[],_::_,H|_::_,[],H=>by cases H
theorem O1{X:V}{S:Nat->Bool}(h:∀o,S o=true->X.ah o=none):∀(l:List (List Cell))(us:List Value),dL X l us->l.map (List.map (Cell.kill S))=l
 |[],[],_=>rfl
 |cs::l,u::us,⟨⟨b,_,arr,t,fz,_,_,H⟩,H2⟩=>by rw[apP,uM h cs _ H,O1 h l us H2]
 |[],_::_,H|_::_,[],H=>by cases H
theorem AV.qo{X:V}{S:Nat->Bool}(h:∀o,S o=true->X.ah o=none):∀(c:AV)(v:Value),aP X c v->c.kill S=c
 |.undef,_,_=>rfl
 |.sv x,v,H=>by rw[AV.kill,SV.qo h x v H]
 |.kE xs,v,⟨vs,_,H⟩=>by grind [AV.kill,QS]
 |.dQ o off,v,⟨b,cs,ho,_⟩=>by
  grind [AV.kill]
 |.kM o i off,v,⟨b,n,cap,e,r,l,fr,ho,_⟩=>by
  grind [AV.kill]
 |.win o i off,v,⟨b,n,cap,e,r,l,fr,ho,_⟩=>by
  grind [AV.kill]
 |.mG _ _ _ _,_,_=>rfl
 |.dI cs off,v,⟨b,_,arr,t,fz,_,_,H⟩=>by grind [AV.kill,uM]
 |.fn f caps,v,⟨us,_,H⟩=>by grind [AV.kill,O1]
theorem ay.qo{X:V}{S:Nat->Bool}(h:∀o,S o=true->X.ah o=none){o:Nat}:∀(x:ay),bg X o x->x.kill S=x
 |.var cs,⟨b,ar,t,_,_,H⟩=>by grind [ay.kill,uM]
 |.arr _ _ _ _,_=>rfl
theorem Cell.pq{S S' H:Nat->Bool}(h1:∀o,S o=true->S' o=true)(h2:∀o,S' o=true->S o=true\/H o=true):∀(c:Cell),(c.kill S).touch H=false->c.kill S'=c.kill S
 |.int _ _,_|.bool _,_|.str _,_|.nil,_|.sl _ _ _ _,_|.junk,_=>rfl
 |.ref o,ht=>by
  simp only[Cell.kill]at ht ⊢;cases hs:S o with
  |true=>rw[h1 o hs]
  |false=>
   rw[hs]at ht;have ht:H o=false:=ht
   grind
theorem qp{S S' H:Nat->Bool}(h1:∀o,S o=true->S' o=true)(h2:∀o,S' o=true->S o=true\/H o=true):∀(cs:List Cell),(cs.map (Cell.kill S)).any (Cell.touch H)=false->cs.map (Cell.kill S')=cs.map (Cell.kill S)
 |[],_=>rfl
 |c::cs,ht=>by rw[apP,List.any_cons,aqV]at ht;rw[apP,apP,Cell.pq h1 h2 c ht.1,qp h1 h2 cs ht.2]
theorem SV.pq{S S' H:Nat->Bool}(h1:∀o,S o=true->S' o=true)(h2:∀o,S' o=true->S o=true\/H o=true):∀(c:SV),(c.kill S).touch H=false->c.kill S'=c.kill S
 |.one c,ht=>by simp only[SV.kill];rw[Cell.pq h1 h2 c ht]
 |.agg cs,ht=>by simp only[SV.kill];rw[qp h1 h2 cs ht]
theorem LD{S S' H:Nat->Bool}(h1:∀o,S o=true->S' o=true)(h2:∀o,S' o=true->S o=true\/H o=true):∀(cs:List SV),(cs.map (SV.kill S)).any (SV.touch H)=false->cs.map (SV.kill S')=cs.map (SV.kill S)
 |[],_=>rfl
 |c::cs,ht=>by rw[apP,List.any_cons,aqV]at ht;rw[apP,apP,SV.pq h1 h2 c ht.1,LD h1 h2 cs ht.2]
theorem Jy{S S' H:Nat->Bool}(h1:∀o,S o=true->S' o=true)(h2:∀o,S' o=true->S o=true\/H o=true):∀(l:List (List Cell)),((l.map (List.map (Cell.kill S))).any λcs=>cs.any (Cell.touch H))=false->l.map (List.map (Cell.kill S'))=l.map (List.map (Cell.kill S))
 |[],_=>rfl
 |c::cs,ht=>by rw[apP,List.any_cons,aqV]at ht;rw[apP,apP,qp h1 h2 c ht.1,Jy h1 h2 cs ht.2]
theorem AV.pq{S S' H:Nat->Bool}(h1:∀o,S o=true->S' o=true)(h2:∀o,S' o=true->S o=true\/H o=true):∀(c:AV),(c.kill S).touch H=false->c.kill S'=c.kill S
 |.undef,_=>rfl
 |.sv v,ht=>by simp only[AV.kill];rw[SV.pq h1 h2 v ht]
 |.kE vs,ht=>by simp only[AV.kill];rw[LD h1 h2 vs ht]
 |.dQ o off,ht=>by
  simp only[AV.kill]at ht ⊢;cases hs:S o with
  |true=>rw[h1 o hs]
  |false=>
   rw[hs]at ht;have ht:H o=false:=ht
   grind
 |.kM o i off,ht=>by
  simp only[AV.kill]at ht ⊢;cases hs:S o with
  |true=>rw[h1 o hs]
  |false=>
   rw[hs]at ht;have ht:H o=false:=ht
   grind
 |.win o i off,ht=>by
  simp only[AV.kill]at ht ⊢;cases hs:S o with
  |true=>rw[h1 o hs]
  |false=>
   rw[hs]at ht;have ht:H o=false:=ht
   grind
 |.mG _ _ _ _,_=>rfl
 |.dI cs off,ht=>by simp only[AV.kill];rw[qp h1 h2 cs ht]
 |.fn g caps,ht=>by simp only[AV.kill];rw[Jy h1 h2 caps ht]
theorem ay.pq{S S' H:Nat->Bool}(h1:∀o,S o=true->S' o=true)(h2:∀o,S' o=true->S o=true\/H o=true):∀(c:ay),(c.kill S).touch H=false->c.kill S'=c.kill S
 |.var cs,ht=>by simp only[ay.kill];rw[qp h1 h2 cs ht]
 |.arr _ _ _ _,_=>rfl
theorem ahz{v s:St}{lv lp hd:List Nat}(h:v.more s)(h1:∀o,aN lv o=true->aN lp o=true)(h2:∀o,aN lp o=true->aN lv o=true\/aN hd o=true):
 ((o6 lv v).YF hd).more (o6 lp s):=by
 have hc:∀(s:St),s.YF hd={n:=s.n,tmps:=(λt=>match (s.tmps t).touch (aN hd)with|true=>.undef|false=>s.tmps t),ah:=(λo=>match aN hd o with|true=>none|false=>match s.ah o with|some x=>(match x.touch (aN hd)with|true=>none|false=>some x)|none=>none)}:=by
  intro s;cases hd with
  |cons=>rfl
  |nil=>
   have t0:∀c:Cell,c.touch (aN [])=false:=λc=>by cases c<;>rfl
   have t1:∀cs:List Cell,cs.any (Cell.touch (aN []))=false:=λcs=>by grind
   have t2:∀c:SV,c.touch (aN [])=false:=λc=>by cases c with|one c=>exact t0 c|agg cs=>exact t1 cs
   have t3:∀c:AV,c.touch (aN [])=false:=λc=>by
    cases c with
    |sv v=>exact t2 v
    |kE vs=>show vs.any (SV.touch (aN []))=false;grind
    |dI cs off=>exact t1 cs
    |fn g caps=>show(caps.any λcs=>cs.any (Cell.touch (aN [])))=false;grind
    |_=>rfl
   have t4:∀c:ay,c.touch (aN [])=false:=λc=>by cases c with|var cs=>exact t1 cs|arr _ _ _ _=>rfl
   cases s with
   |mk n t o=>
    simp only[St.YF,St.mk.injEq,ari]
    grind [aN]
 rw[hc,lX,lX];refine⟨λt=>?_,λo y hy=>?_⟩
 .dsimp only[St.kill];cases ht:((v.tmps t).kill (aN lv)).touch (aN hd)with
  |true=>exact .inl rfl
  |false=>
   rcases h.tmps t with e|e
   .rw[e];exact .inl rfl
   grind [AV.pq]
 .dsimp only[St.kill]at hy ⊢;split at hy
  .cases hy
  .next hh=>
   split at hy
   .next x hx=>
    split at hx
    .cases hx
    .next hl=>
     cases hvo:v.ah o with
     |none=>grind
     |some y0=>
      split at hy
      .cases hy
      .next ht=>
       have hlp:aN lp o=false:=by
        grind
       rw[hlp,h.ah o _ hvo]
       grind [ay.pq]
   .cases hy
theorem ahA{base:St}{D U:List Nat}{path:List dA}{L L':Nat->Bool}{i:Nat}{x:dA}(hi:i<path.length)(hL:L i=false)(hL':L' i=true)(h:∀j,j≠i->L' j=L j)
 (hf:Fits D U (pick (path.set i x) 0 L')) (hne:∀y∈pick path 0 L,y.d≠x.d) (hu:x.u≠[]->∀j y,i<j->L j=true->path[j]? =some y->y.u=[]):
 (((kF base (pick path 0 L)).adds x.u).adds x.δ).set x.d x.v=kF base (pick (path.set i x) 0 L')/\(∀o,aN (mZ (pick (path.set i x) 0 L')) o=(aN (mZ (pick path 0 L)) o||aN x.k o)):=by
 have hsplit:path=path.take i++path[i]::path.drop (i+1):=by simp_all
 have p1:pick path 0 L=pick (path.take i) 0 L++pick (path.drop (i+1)) (i+1) L:=by
  grind [Kq,pick]
 have aoW:∀(l:List dA)(j:Nat),(∀k,k<l.length->j+k≠i)->pick l j L'=pick l j L:=by
  intro l
  induction l with
  |nil=>intros;rfl
  |cons y l ih=>intro j hj;rw[pick,pick,h j (by simpa using hj 0 (by simp)),ih (j+1) λk hk=>by have:=hj (k+1) (by simpa using hk);omega]
 have p2:pick (path.set i x) 0 L'=pick (path.take i) 0 L++x::pick (path.drop (i+1)) (i+1) L:=by
  grind [Kq,pick]
 rw[p2]at hf;rw[p1]at hne;rw[p1,p2];refine⟨?_,λo=>?_⟩
 case refine_2=>
  grind [o9,o7]
 refine agb hf hne λhxu y hy=>?_
 grind [lW]
theorem ahB{base:St}{D U:List Nat}{path:List dA}{L L':Nat->Bool}{i:Nat}{x:dA}(hi:i<path.length)(hL:L i=false)(hL':L' i=true)(h:∀j,j≠i->L' j=L j)
 (hf:Fits D U (pick (path.set i x) 0 L')) (hne:∀y∈pick path 0 L,y.d≠x.d) (hu:x.u≠[]->∀j y,i<j->L j=true->path[j]? =some y->y.u=[])
 (hv:x.v.kill (aN (mZ (pick (path.set i x) 0 L')))=x.v)
 (hxo:∀o y,(look x.δ o=some y\/look x.u o=some y)->aN (mZ (pick (path.set i x) 0 L')) o=false/\y.kill (aN (mZ (pick (path.set i x) 0 L')))=y):
 (((o6 x.k (after base path L)).adds x.u).adds x.δ).set x.d x.v=after base (path.set i x) L':=by
 obtain⟨e1,e2⟩:=ahA (base:=base) hi hL hL' h hf hne hu;have e3:o6 x.k (after base path L)=(kF base (pick path 0 L)).kill (aN (mZ (pick (path.set i x) 0 L'))):=by
  grind [after,lX,St.nY]
 rw[e3];unfold after;rw[lX,← e1];have f1:∀s:St,((s.adds x.u).adds x.δ)={s with ah:=((s.adds x.u).adds x.δ).ah}:=λs=>by grind [TG]
 simp only[St.set,St.kill,St.mk.injEq,ari]
 grind [pG]
theorem ahC{base:St}{path:List dA}{L:Nat->Bool}(hL:∀i,L i=false):after base path L=base:=by unfold after;rw[acR path 0 L λi _=>hL i];rfl
theorem ajC(h:Rel w0 M T γ st a w)(D:List Nat):Rel w0 M T γ (bF D st) a w:=h.kill _
theorem acV{D:List Nat}{o:Nat}(h:aN D (o / 64)=true):(bF D st).ah o=none:=by simp[bF,St.kill,h]
theorem ahD{R:Reg}{path:List dA}{L:Nat->Bool}{i:Nat}(hf:Fits R.D R.U (pick path 0 L))(hsub:∀j,(R.ms.getD i 0).testBit j=true->L j=true)
 (hidx:∀k x,path[k]? =some x->idxOf R.D x.d 0=some k) (hi:L i=false) (hdown:∀k,L k=true->(R.ms.getD k 0).testBit i=false)
 (heff:DW R.ms R.E i=true->∀j x,path[j]? =some x->x.u≠[]->L j=true->(R.ms.getD i 0).testBit j=true):
 ((match DW R.ms R.E i with
   |true=>kF (bF R.D st) (pick path 0 (R.ms.getD i 0).testBit)
   |false=>(kF (bF R.D st) (pick path 0 (R.ms.getD i 0).testBit)).hide R.U).veil R i).more (kF (bF R.D st) (pick path 0 L)):=by
 have hmem:∀x∈pick path 0 (R.ms.getD i 0).testBit,x∈pick path 0 L:=λx hx=>by
  grind [lW]
 have ht:∀t,Wq R i t=false->tX (pick path 0 L) t ((bF R.D st).tmps t)=tX (pick path 0 (R.ms.getD i 0).testBit) t ((bF R.D st).tmps t):=by
  grind [QO,YH,lW,Wq,Nat.eq_of_beq_eq_true]
 have hO:∀o y,lookO (pick path 0 (R.ms.getD i 0).testBit) o ((bF R.D st).ah o)=some y->lookO (pick path 0 L) o ((bF R.D st).ah o)=some y:=by
  intro o y hy;by_cases he:∃x∈pick path 0 (R.ms.getD i 0).testBit,∃z,look x.δ o=some z
  .obtain⟨x,hx,z,hz⟩:=he;have aoX:∀w∈pick path 0 L,∀z',look w.δ o=some z'->x=w:=λw hw z' hz'=>
    hf.one x (hmem x hx) w hw ((o8 (hf.new x (hmem x hx)) hz).symm.trans (o8 (hf.new w hw) hz'))
   grind [acU]
  .have hno:∀x∈pick path 0 (R.ms.getD i 0).testBit,look x.δ o=none:=λx hx=>by
    cases hl:look x.δ o with
    |none=>rfl
    |some z=>grind
   rw[GU _ hno]at hy;rw[GU,hy];intro x hx;cases hl:look x.δ o with
   |none=>rfl
   |some z=>rw[acV (by rw[o8 (hf.new x hx) hl];exact hf.mem x hx)]at hy;cases hy
 have hsame:∀o y,nN (pick path 0 (R.ms.getD i 0).testBit) o=nN (pick path 0 L) o->(kF (bF R.D st) (pick path 0 (R.ms.getD i 0).testBit)).ah o=some y->(kF (bF R.D st) (pick path 0 L)).ah o=some y:=by
  grind [kF]
 have akv:∀s:St,(∀t,s.tmps t=tX (pick path 0 (R.ms.getD i 0).testBit) t ((bF R.D st).tmps t))->(∀o y,s.ah o=some y->(kF (bF R.D st) (pick path 0 L)).ah o=some y)->(s.veil R i).more (kF (bF R.D st) (pick path 0 L)):=by
  intro s h1 h2;refine⟨λt=>?_,h2⟩;show(match Wq R i t with|true=>AV.undef|false=>s.tmps t)=.undef\/_=(match Wq R i t with|true=>AV.undef|false=>s.tmps t);cases hh:Wq R i t with
  |true=>exact .inl rfl
  |false=>right;rw[h1 t];exact ht t hh
 split
 .next hc=>
  refine akv _ (λt=>rfl) λo y hy=>hsame o y ?_ hy
  grind [Vg]
 .next hc=>
  refine akv _ (λt=>rfl) λo y hy=>?_;unfold St.hide at hy;dsimp only at hy;split at hy
  .cases hy
  .next hU=>
   have nou:∀x∈pick path 0 L,look x.u o=none:=λx hx=>by
    cases hl:look x.u o with
    |none=>rfl
    |some z=>have:=(hf.upd x hx o z hl).1;grind
   grind [DY]
theorem aiK(st:St)(U:List Nat)(S:Nat->Bool):(st.kill S).hide U=(st.hide U).kill S:=by
 simp only[St.hide,St.kill,St.mk.injEq,ari]
 grind
theorem aiL(st:St)(R:Reg)(i:Nat)(S:Nat->Bool):(st.kill S).veil R i=(st.veil R i).kill S:=by
 simp only[St.veil,St.kill,St.mk.injEq,ari,and_true]
 funext t
 cases Wq R i t<;>rfl
theorem aeY{ms:List Nat}{i e q:Nat}(YI:e≠i)(h1:(ms.getD i 0).testBit e=false)(h2:(ms.getD e 0).testBit i=false):∀(A:List (Nat×Nat)),EL A e q=true->aN (abh ms i A) q=true
 |[],h=>by cases h
 |(e',q')::r,h=>by
  rw[EL]at h;rw[abh];cases hb:Nat.beq e' e&&Nat.beq q' q with
  |true=>
   rw[apt]at hb;rw[aps hb.1,aps hb.2,h1,h2,Fz YI];simp[aN,aqs]
  |false=>
   rw[hb]at h;have ih:=aeY YI h1 h2 r h;split
   .exact ih
   .rw[aN,ih];split<;>rfl
theorem agc{R:Reg}{path:List dA}{L:Nat->Bool}{i:Nat}(hf:Fits R.D R.U (pick path 0 L))(hsub:∀j,(R.ms.getD i 0).testBit j=true->L j=true)
 (hidx:∀k x,path[k]? =some x->idxOf R.D x.d 0=some k) (hi:L i=false) (hdown:∀k,L k=true->(R.ms.getD k 0).testBit i=false)
 (heff:DW R.ms R.E i=true->∀j x,path[j]? =some x->x.u≠[]->L j=true->(R.ms.getD i 0).testBit j=true)
 (hk:∀e x,path[e]? =some x->L e=true->∀q∈x.k,EL R.A e q=true):
 (viewAt R (bF R.D st) path i).more (after (bF R.D st) path L):=by
 have h0:=ahD (st:=st) hf hsub hidx hi hdown heff;have e:viewAt R (bF R.D st) path i=(o6 (mZ (pick path 0 (R.ms.getD i 0).testBit)) ((match DW R.ms R.E i with
  |true=>kF (bF R.D st) (pick path 0 (R.ms.getD i 0).testBit)
  |false=>(kF (bF R.D st) (pick path 0 (R.ms.getD i 0).testBit)).hide R.U).veil R i)).YF (abh R.ms i R.A):=by
  grind [viewAt,after,lX,aiK,aiL]
 rw[e];refine ahz h0 (λo ho=>?_) λo ho=>?_
 · grind [o9,lW]
 grind [o9,lW,aeY]
theorem acW:∀(l:List Nat)(j i d:Nat),nodup l=true->l[i]? =some d->idxOf l d j=some (j+i)
 |[],_,_,_,_,h=>by simp at h
 |x::r,j,0,d,_,h=>by
  grind [idxOf,Nat.beq_refl]
 |x::r,j,i+1,d,hn,h=>by
  rw[nodup,apt]at hn;have hne:Nat.beq d x=false:=by
   grind [Nat.eq_of_beq_eq_true,o7]
  rw[idxOf,hne,show j+(i+1)=j+1+i by omega];exact acW r (j+1) i d hn.2 (by simpa using h)
end Go.Fw
namespace Go.Fw
open Go
variable {P:Program} {w0:World} {M:Nat->Prop} {T:Ext} {γ γ':Nat->Value} {st s:St} {a:Act} {w w':World} {Θ:gI} {Γ:iT}
theorem Cell.uN{S:Nat->Bool}(h:∀o,S o=false):∀(c:Cell),c.kill S=c
 |.ref o=>by grind [Cell.kill]
 |.int _ _|.bool _|.str _|.nil|.sl _ _ _ _|.junk=>rfl
theorem Cj{S:Nat->Bool}(h:∀o,S o=false)(cs:List Cell):cs.map (Cell.kill S)=cs:=by rw[show Cell.kill S=id from funext (Cell.uN h),aqZ]
theorem SV.uN{S:Nat->Bool}(h:∀o,S o=false):∀(c:SV),c.kill S=c
 |.one c=>by grind [SV.kill,Cell.uN]
 |.agg cs=>by grind [SV.kill,Cj]
theorem AV.uN{S:Nat->Bool}(h:∀o,S o=false):∀(c:AV),c.kill S=c
 |.undef=>rfl
 |.sv v=>by grind [AV.kill,SV.uN]
 |.kE vs=>by simp only[AV.kill];rw[show SV.kill S=id from funext (SV.uN h),aqZ]
 |.dQ o off=>by grind [AV.kill]
 |.kM o i off=>by grind [AV.kill]
 |.win o i off=>by grind [AV.kill]
 |.mG _ _ _ _=>rfl
 |.dI cs off=>by grind [AV.kill,Cj]
 |.fn f caps=>by simp only[AV.kill];rw[show List.map (Cell.kill S)=id from funext (Cj h),aqZ]
theorem ay.uN{S:Nat->Bool}(h:∀o,S o=false):∀(c:ay),c.kill S=c
 |.var cs=>by grind [ay.kill,Cj]
 |.arr _ _ _ _=>rfl
theorem St.uN{S:Nat->Bool}(h:∀o,S o=false)(st:St):st.kill S=st:=by
 unfold St.kill;rw[show(λt=>(st.tmps t).kill S)=st.tmps from funext λt=>AV.uN h _];have:(λo=>match S o with|true=>none|false=>(st.ah o).map (ay.kill S))=st.ah:=by
  funext o
  rw[h o,show ay.kill S=id from funext (ay.uN h)];cases st.ah o<;>rfl
 simp_all
theorem ahE:∀(c:Cell),c.refs=[]->c.view s=c.view st
 |.int _ _,_|.bool _,_|.str _,_|.nil,_|.sl _ _ _ _,_|.junk,_=>rfl
theorem Vk:∀(cs:List Cell),cs.flatMap Cell.refs=[]->cs.map (Cell.view s)=cs.map (Cell.view st)
 |[],_=>rfl
 |c::cs,h=>by rw[ap8,apU]at h;rw[apP,apP,ahE c h.1,Vk cs h.2]
theorem QU(h:st.more s){m:Mode}{x:AV}{r:Arg×Option Nat}(hr:oD st m x=some r):oD s m x=some r:=by
 unfold oD at hr ⊢;cases m with
 |val=>
  grind [xB]
 |own=>
  dsimp only at hr ⊢;split at hr
  .split at hr
   .next ho=>rw[h.ah _ _ ho];exact hr
   .cases hr
  .cases hr
 |ptr=>
  dsimp only at hr ⊢;split at hr
  .split at hr
   .next hb ho=>
    split at hr
    .next hn=>rw[hb,h.ah _ _ ho];grind [Vk]
    .cases hr
   .cases hr
  .cases hr
theorem O3{m:Mode}{x:AV}{r:Arg×Option Nat}(hr:oD st m x=some r):x≠ .undef:=by rintro rfl;cases m<;>simp[oD,lS]at hr
theorem DZ(h:st.more s):∀(os:List (Option Nat))(aH:List Eff)(δ:List (Nat×ay)),lC st os aH=some δ->lC s os aH=some δ
 |[],_,_,hb=>by grind [lC]
 |none::os,aH,δ,hb=>by exact DZ h os _ δ hb
 |some o::os,aH,δ,hb=>by
  unfold lC at hb ⊢;split at hb
  .next h1 h2=>rw[h1,DZ h _ _ _ h2];exact hb
  .next h1 h2 h3=>rw[h1,h.ah _ _ h2,DZ h _ _ _ h3];omega
  .next h1 h2 h3=>rw[h1,h.ah _ _ h2,DZ h _ _ _ h3];omega
  .cases hb
theorem Kr:∀(os:List (Option Nat))(aH:List Eff),QN os aH=true->∀p,gK os aH p=false
 |[],_,_,_=>rfl
 |none::os,aH,h,p=>by exact Kr os _ h p
 |some o::os,aH,h,p=>by
  unfold QN at h;unfold gK;split at h
  .next cs he=>rw[he];exact Kr os _ h p
  .cases h
theorem adz(h:st.more s){m:Mode}{x:AV}{r:Arg×Option Nat}(hr:qm st m x=some r):qm s m x=some r:=by
 cases m with
 |val=>
  grind [qm,xB]
 |own=>exact QU h (m:=.own) hr
 |ptr=>exact QU h (m:=.ptr) hr
theorem abj{m:Mode}{x:AV}{r:Arg×Option Nat}(hr:qm st m x=some r):x≠ .undef:=by
 cases m with
 |val=>rintro rfl;simp[qm,lS]at hr
 |own=>exact O3 (m:=.own) hr
 |ptr=>exact O3 (m:=.ptr) hr
theorem Vl(h:st.more s):∀(ms:List Mode)(xs:List AV)(r:List Arg×List (Option Nat)),uJ st ms xs=some r->uJ s ms xs=some r
 |_,[],r,hr=>by grind [uJ]
 |ms,x::xs,r,hr=>by
  unfold uJ at hr ⊢;split at hr
  .next h1 h2=>rw[adz h h1,Vl h _ _ _ h2];exact hr
  .cases hr
theorem QV:∀(ms:List Mode)(xs:List AV)(r:List Arg×List (Option Nat)),uJ st ms xs=some r->∀x∈xs,x≠ .undef
 |_,[],_,_,x,hx=>by cases hx
 |ms,x::xs,r,hr,y,hy=>by
  unfold uJ at hr;split at hr
  .next h1 h2=>
   rcases apN.1 hy with rfl|hy
   .exact abj h1
   .exact QV _ _ _ h2 y hy
  .cases hr
theorem ahF{xs:List AV}(h:Dz xs=true):qX xs=[]:=by
 grind [Dz]
theorem wV:∀(ms:List Mode)(xs:List AV)(r:List Arg×List (Option Nat)),qX (Bj ms xs)=[]->uJ st ms xs=some r->hands st ms xs=some r
 |_,[],r,_,hr=>by grind [uJ,hands]
 |ms,x::xs,r,hn,hr=>by
  unfold uJ at hr;split at hr
  .next a o as os h1 h2=>
   have key:hands st ms.tail xs=some (as,os)/\oD st (ms.headD .val) x=some (a,o):=by
    cases ms with
    |nil=>
     have hn':x.refs++qX xs=[]:=hn;rw[apU]at hn';refine⟨wV [] xs _ (by cases xs<;>exact hn'.2) h2,?_⟩
     grind [qm,oD]
    |cons m ms=>
     cases m with
     |val=>
      have hn':x.refs++qX (Bj ms xs)=[]:=hn;rw[apU]at hn';refine⟨wV ms xs _ hn'.2 h2,?_⟩;have h1:qm st .val x=some (a,o):=h1;simp only[qm]at h1;simp only[oD,hn'.1];split at h1
      .next b hb=>rw[hb];exact h1
      .cases h1
     |own=>exact⟨wV ms xs _ hn h2,h1⟩
     |ptr=>exact⟨wV ms xs _ hn h2,h1⟩
   grind [hands]
  .cases hr
theorem adA{m:Mode}{x:AV}{a:Arg}{o:Option Nat}(h:qm st m x=some (a,o)):C9 false st x a o:=by
 have weak:C9 true st x a o->C9 false st x a o:=λh=>h.imp (λ⟨h1,_,h3⟩=>⟨h1,(λe=>by cases e),h3⟩) id;cases m with
 |val=>
  simp only[qm]at h;split at h
  .next b hb=>cases h;exact .inl ⟨rfl,(λe=>by cases e),hb⟩
  .cases h
 |own=>exact weak (Ie (m:=.own) h)
 |ptr=>exact weak (Ie (m:=.ptr) h)
theorem Vm:∀(ms:List Mode)(xs:List AV)(as:List Arg)(os:List (Option Nat)),uJ st ms xs=some (as,os)->nV false st xs as os
 |_,[],as,os,h=>by cases h;trivial
 |ms,x::xs,as,os,h=>by
  unfold uJ at h;split at h
  .next a o as' os' h1 h2=>cases h;exact⟨adA h1,Vm ms.tail xs as' os' h2⟩
  .cases h
theorem aeZ{G:iP}(hE:oG P G Θ Γ w0 M)(h:Rel w0 M T γ s a w)(hm:st.more s)(o:Oper){D U:List Nat}{d:Nat}{p:Prop}{ρ:J5}{os:List (Option Nat)×Bool}
 (hc:LC Γ st o.op=some (p,ρ,os)) (hp:p) (hd:∀q,q / 64=d->s.ah q=none) (hch:∀t,ρ.R t->∃r,DX D U d st os (ρ.out t) (ρ.aH t)=some r) {next:Act->World->Prop} {Q:Exit->Act->World->Prop}
 (hn:∀t v υ δ u γ' w',ρ.R t->DX D U d st os (ρ.out t) (ρ.aH t)=some (v,υ,δ)->Rel w0 M T γ' ((s.adds υ).adds δ) a w'->aP (aj w0 T γ' ((s.adds υ).adds δ) w') v u->next (a.put o.dst u) w'):o.wp P a w next Q:=by
 unfold LC at hc;split at hc
 case h_2=>cases hc
 next f args mr hop=>
 split at hc
 case h_2=>cases hc
 next ms con hcon=>
 split at hc
 case h_2=>cases hc
 next vs os' QB=>
 split at hc
 case h_2=>cases hc
 next hno=>
 split at hc
 case h_2=>cases hc
 next q ρ' hq=>
 cases hc;have hand:handed s args.toList []=handed st args.toList []:=J9 hm [] _ (QV _ _ _ QB);have abk:=Vl hm _ _ _ QB;rw[← hand]at abk hno hch hn;obtain⟨hok,hcall⟩:=hE.adX f ms con hcon;have hv:aP (aj w0 T γ s w) (.fn f []) (a.eval (.func f)):=fZ h (.func f);obtain⟨us,Yh,hkx⟩:=hv;unfold Oper.wp;rw[Jo hop Yh hcall,ara];have hxs:kU (aj w0 T γ s w) (handed s args.toList []) (args.map a.eval++us).toList:=by
  grind [Array.toList_map,DL]
 have hk:(d*64+1)%64=1:=by omega
 have hspec:∀t,ρ.R t->∃υ,uD os'=true/\Fv (ρ.aH t) ((ρ.out t).take (d*64+1)).2=true/\lC s os' (ρ.aH t)=some υ/\s.kill (gK os' (ρ.aH t))=s/\iC s ((ρ.out t).take (d*64+1)).2=true/\
  (!(!(Dz (Bj ms (handed s args.toList []))))||((ρ.out t).made&&Ig (ρ.aH t)))=true/\
  DX D U d st (os',!(Dz (Bj ms (handed s args.toList [])))) (ρ.out t) (ρ.aH t)=some (((ρ.out t).take (d*64+1)).1,υ,((ρ.out t).take (d*64+1)).2):=by
  intro t ht;obtain⟨r,hr⟩:=hch t ht;have hr0:=hr;unfold DX at hr;split at hr
  .next υ hnd hb=>
   rw[apt,apt,apt,apt]at hnd;split at hr
   .cases hr;refine⟨υ,hnd.1,hnd.2.1,DZ hm _ _ _ hb,St.uN (Kr _ _ hnd.2.2.1) s,?_,hnd.2.2.2.2,hr0⟩;refine apL.2 λz hz=>?_;rw[hd z.1 (aps (apL.1 hnd.2.2.2.1 z hz))];rfl
   .cases hr
  .cases hr
 have hpre:∀t,ρ.R t->∃δ,lC s os' (ρ.aH t)=some δ/\iC (s.kill (gK os' (ρ.aH t))) ((ρ.out t).take (d*64+1)).2=true/\Fv (ρ.aH t) ((ρ.out t).take (d*64+1)).2=true:=λt ht=>by
  grind
 obtain⟨t0,ht0⟩:=(hok vs _ ρ hq hp).1;obtain⟨_,hnd,_⟩:=hspec t0 ht0;have alC:Calls P f (args.map a.eval++us) w λe w'=>∃t δ,ρ.R t/\lC s os' (ρ.aH t)=some δ/\∃v γ',e=.returned v/\
  Rel w0 M T γ' (((s.kill (gK os' (ρ.aH t))).adds δ).adds ((ρ.out t).take (d*64+1)).2) a w'/\aP (aj w0 T γ' (((s.kill (gK os' (ρ.aH t))).adds δ).adds ((ρ.out t).take (d*64+1)).2) w') ((ρ.out t).take (d*64+1)).1 v:=by
  cases hnr:Dz (Bj ms (handed s args.toList []))with
  |true=>exact h.agw hE hxs (Nl ms _ vs os' (wV ms _ _ (ahF hnr) abk)) hnd hk hok hq hp hpre
  |false=>
   rw[hnr]at hno;refine h.aeB hE hxs (Vm ms _ vs os' abk) hnd hk hok hq hp (λq e r l he=>?_) (λt ht=>?_) hpre
   .unfold dR at he;split at he
    .next e' r' l' hb=>have:=apL.1 hno _ (apY hb);cases this
    .split at he<;>cases he
    .cases he
   grind
 refine alC.mono ?_
 grind
theorem zh{ops:Array Oper}{listed:Array Bool}{i:Nat}:i∈Region.ready .any ops listed↔
 ∃o,ops[i]? =some o/\listed.getD i true=false/\∀e∈o.after,Region.binds .any e=true->listed.getD e.on false=true:=by
 grind [mem_ready]
theorem Jz{listed:Array Bool}{i:Nat}(hi:i<listed.size):listed.getD i true=listed.getD i false:=by
 grind
theorem ak1(d:Nat):(d*64+1) / 64=d:=by omega
theorem acX{o:Op}(h:uI o=true):wz Γ o=true:=by
 unfold uI at h;split at h
 .rfl
 .cases h
theorem Rel.alD(h:Rel w0 M T γ st a w)(d:Nat)(hd:st.n<=d)(v:AV)(hv:v=.kE []):Rel w0 M T γ (st.set d v) (a.put none undef) w:=by
 refine⟨h.mT,h.defers,h.size,h.os,h.tape,h.output,h.grow,h.kept,λt=>?_,h.ah,h.lt,h.sep,h.pin⟩;show aP _ (match Nat.beq t d with|true=>v|false=>st.tmps t) (a.tmps.getD t undef);cases hb:Nat.beq t d with
 |false=>exact h.tmps t
 |true=>
  have e:=aps hb;have hs:=h.size;have:a.tmps.getD t undef=undef:=by grind
  rw[this,hv];exact⟨#[],rfl,trivial⟩
theorem abl{G:iP}(hE:oG P G Θ Γ w0 M){s:St}(h:Rel w0 M T γ s a w)(hm:st.more s)(o:Oper){υ:List (Nat×ay)}(hc:Ip Θ st o.op=some υ){next:Act->World->Prop}{Q:Exit->Act->World->Prop}
 (hn:∀γ' w',Rel w0 M T γ' ((s.adds υ).adds []) a w'->next (a.put o.dst undef) w'):o.wp P a w next Q:=by
 unfold Ip at hc;split at hc
 case h_2=>cases hc
 next t p x hop=>
 split at hc
 case h_2=>cases hc
 next v ti q off hv ht hp=>
 split at hc
 case h_2=>cases hc
 next cs hlen ho=>
 split at hc
 case h_2=>cases hc
 next Nk=>
 cases hc;have hs:store s (.dQ q off) v=some (True,s.add q (.var (splice cs off v.cells))):=by unfold store;simp only[hm.ah q _ ho,Nk]
 have hpv:=fZ h p;rw[bC hm hp (by simp)]at hpv;have hxv:=fZ h x;rw[bC hm hv (by simp)]at hxv;obtain⟨w',h1,h2⟩:=acD hE.types h ht hs trivial hpv hxv (aps hlen);exact Oper.wp_skip (w':=w') (by simp_all [execOp]) (hn γ w' h2)
theorem Cell.jH{S:Nat->Bool}(st:St):∀(c:Cell),c.kill S=c->c.freeze st S=c
 |.ref o,h=>by
  grind [Cell.kill,Cell.freeze]
 |.int _ _,_|.bool _,_|.str _,_|.nil,_|.sl _ _ _ _,_|.junk,_=>rfl
theorem lY{S:Nat->Bool}(st:St):∀(cs:List Cell),cs.map (Cell.kill S)=cs->cs.map (Cell.freeze st S)=cs
 |[],_=>rfl
 |c::cs,h=>by rw[apP,List.cons.injEq]at h;rw[apP,Cell.jH st c h.1,lY st cs h.2]
theorem SV.jH{S:Nat->Bool}(st:St):∀(c:SV),c.kill S=c->c.freeze st S=c
 |.one c,h=>by
  grind [SV.kill,SV.freeze,Cell.jH]
 |.agg cs,h=>by
  grind [SV.kill,SV.freeze,lY]
theorem FM{S:Nat->Bool}(st:St):∀(cs:List SV),cs.map (SV.kill S)=cs->cs.map (SV.freeze st S)=cs
 |[],_=>rfl
 |c::cs,h=>by rw[apP,List.cons.injEq]at h;rw[apP,SV.jH st c h.1,FM st cs h.2]
theorem Eu{S:Nat->Bool}(st:St):∀(l:List (List Cell)),l.map (List.map (Cell.kill S))=l->l.map (List.map (Cell.freeze st S))=l
 |[],_=>rfl
 |c::cs,h=>by rw[apP,List.cons.injEq]at h;rw[apP,lY st c h.1,Eu st cs h.2]
theorem AV.jH{S:Nat->Bool}(st:St):∀(c:AV),c.kill S=c->c.freeze st S=c
 |.undef,_=>rfl
 |.sv v,h=>by
  grind [AV.kill,AV.freeze,SV.jH]
 |.kE vs,h=>by
  grind [AV.kill,AV.freeze,FM]
 |.dQ o off,h=>by
  grind [AV.kill,AV.freeze]
 |.kM o i off,h=>by
  grind [AV.kill,AV.freeze]
 |.win o i off,h=>by
  grind [AV.kill,AV.freeze]
 |.mG _ _ _ _,_=>rfl
 |.dI cs off,h=>by
  grind [AV.kill,AV.freeze,lY]
 |.fn f caps,h=>by
  grind [AV.kill,AV.freeze,Eu]
theorem ay.jH{S:Nat->Bool}(st:St):∀(c:ay),c.kill S=c->c.freeze st S=c
 |.var cs,h=>by
  grind [ay.kill,ay.freeze,lY]
 |.arr _ _ _ _,_=>rfl
theorem ajD{s:St}{γ0:Nat->Value}{w1:World}{a1:Act}(h0:Rel w0 M T γ0 s a1 w1){q:Nat}(hq:s.ah q=none){e:TypeId}{r:ak}{l:List r.den}{fr:Bool}{u:Value}
 (h:Rel w0 M T γ (s.adds [(q,.arr e r l fr)]) a w) (hv:aP (aj w0 T γ (s.adds [(q,.arr e r l fr)]) w) (.sv (.one (.ref q))) u):
 Rel w0 M T γ s a w/\aP (aj w0 T γ s w) (.sv (.one (.sl e r l fr))) u:=by
 have hS:∀o,Nat.beq q o=true->s.ah o=none:=λo ho=>by simp_all
 have vZ:(s.adds [(q,.arr e r l fr)]).ah q=some (.arr e r l fr):=by
  show(match Nat.beq q q with|true=>some _|false=>_)=_
  simp_all
 have hne:∀o,Nat.beq q o=false->(s.adds [(q,.arr e r l fr)]).ah o=s.ah o:=λo ho=>by
  show(match Nat.beq o q with|true=>some _|false=>_)=_
  grind [Nat.eq_of_beq_eq_true]
 have hs:(s.adds [(q,.arr e r l fr)]).freeze (Nat.beq q)=s:=by
  have ht:((s.adds [(q,.arr e r l fr)]).freeze (Nat.beq q)).tmps=s.tmps:=by
   funext t
   exact AV.jH _ _ (AV.qo hS _ _ (h0.tmps t))
  have ho:((s.adds [(q,.arr e r l fr)]).freeze (Nat.beq q)).ah=s.ah:=by
   funext o
   simp only[St.freeze];cases hb:Nat.beq q o with
   |true=>grind
   |false=>
    simp only[hne o hb];cases hx:s.ah o with
    |none=>rfl
    |some x=>simp only[arE,ay.jH _ x (ay.qo hS x (h0.ah o x hx))]
  show(⟨s.n,((s.adds [(q,.arr e r l fr)]).freeze (Nat.beq q)).tmps,((s.adds [(q,.arr e r l fr)]).freeze (Nat.beq q)).ah⟩:St)=⟨s.n,s.tmps,s.ah⟩;rw[ht,ho]
 have h1:=h.freeze (S:=Nat.beq q);have h2:=aP.freeze (S:=Nat.beq q) h _ _ hv
 grind [AV.freeze,SV.freeze,Cell.freeze]
structure Way(R:Reg)(ops:Array Oper)(t0:Nat)(path:List dA):Prop where
 len:path.length=t0
 dst:∀(i:Nat)(o:Oper)(x:dA),ops[i]? =some o->path[i]? =some x->ql R.n i o=some x.d
 ajE:∀x∈path,aN R.D x.d=true
 apart:∀(i j:Nat)(x y:dA),path[i]? =some x->path[j]? =some y->x.d=y.d->i=j
 idx:∀(i:Nat)(x:dA),path[i]? =some x->idxOf R.D x.d 0=some i
theorem oH.fit{R:Reg}{base:St}{path:List dA}{i:Nat}{o:Oper}{x:dA}(h:oH Θ Γ R base path i o x):
 Af x.d x.δ=true/\(∀q y,look x.u q=some y->aN R.U q=true/\aN R.D (q / 64)=false)/\(x.u≠[]->wz Γ o.op=true)/\∀q∈x.k,EL R.A i q=true/\aN R.D (q / 64)=true:=by
 obtain⟨_,_,h3⟩:=h;rcases h3 with⟨_,⟨_,_,p,v,δ,_,_,hn,hx⟩|⟨_,_,p,q,y,_,_,⟨h1,h2,h3⟩,hx⟩|⟨he,_,υ,_,hin,hx⟩|⟨⟨he,_⟩,hk,p,ρ,os,t,_,_,_,_,hres⟩⟩|⟨_,hx⟩
 .obtain⟨l1,l2,l3,l4⟩:=mD R.F ⟨x.d,v,[],δ,[]⟩;rw[← hx]at l2 l3 l4;exact⟨apL.2 λy hy=>apL.1 hn y (l4 y hy),(λq y hy=>by rw[l2]at hy;cases hy),(λhne=>(hne l2).elim),λq hq=>by grind⟩
 .obtain⟨l1,l2,l3,l4⟩:=mD R.F ⟨x.d,.sv (.one (.ref (x.d*64+1))),[],[(x.d*64+1,y)],[q]⟩;rw[← hx]at l2 l3 l4;refine⟨apL.2 λz hz=>?_,(λq y hy=>by rw[l2]at hy;cases hy),(λhne=>(hne l2).elim),λr hr=>?_⟩
  .have:z=(x.d*64+1,y):=by grind
   rw[this];rw[show(x.d*64+1) / 64=x.d by omega,aqs]
  grind
 .rw[hx];refine⟨rfl,λq y hy=>?_,(λ_=>he),λq hq=>by cases hq⟩;have:=apL.1 hin _ (sN _ _ _ hy)
  grind
 .unfold DX at hres;split at hres
  .next υ hnd hb=>
   split at hres
   .next hall=>
    simp only[Option.some.injEq,Prod.mk.injEq]at hres;obtain⟨_,e2,e3⟩:=hres;refine⟨by grind,λq y hy=>?_,(λ_=>he),λq hq=>by grind⟩;rw[← e2]at hy;have:=apL.1 hall _ (sN _ _ _ hy)
    grind
   .cases hres
  .cases hres
 .rw[hx];exact⟨rfl,(λq y hy=>by cases hy),(λhne=>(hne rfl).elim),λq hq=>by cases hq⟩
theorem YJ:∀(l:List Oper)(i j:Nat)(o:Oper),l[j]? =some o->wz Γ o.op=true->i+j∈Lu Γ i l
 |[],_,_,_,h,_=>by simp at h
 |x::r,i,0,o,h,he=>by
  grind [Lu]
 |x::r,i,j+1,o,h,he=>by
  have:=YJ r (i+1) j o (by simpa using h) he
  grind [Lu]
theorem Way.fits{R:Reg}{ops:Array Oper}{t0:Nat}{path:List dA}{L:Nat->Bool}{base:St}(W:Way R ops t0 path)(hle:t0<=ops.size)
 (hok:∀j o x,ops[j]? =some o->path[j]? =some x->L j=true->oH Θ Γ R base path j o x):Fits R.D R.U (pick path 0 L):=by
 have get:∀x∈pick path 0 L,∃j o,L j=true/\path[j]? =some x/\ops[j]? =some o:=λx hx=>by obtain⟨j,h1,h2⟩:=(lW _ _).1 hx;rw[aqg]at h1;obtain⟨hj,_⟩:=apC.1 h2;have hlen:=W.len;exact⟨j,ops[j]'(by omega),h1,h2,by simp⟩
 refine⟨λx hx y hy e=>?_,λx hx=>?_,λx hx=>?_,λx hx q z hz=>?_⟩
 .obtain⟨j,_,_,h2,_⟩:=get x hx;obtain⟨k,_,_,h3,_⟩:=get y hy;have:=W.apart j k x y h2 h3 e
  grind
 .obtain⟨j,_,_,h2,_⟩:=get x hx;exact W.ajE x (apY h2)
 .obtain⟨j,o,h1,h2,h3⟩:=get x hx;exact(hok j o x h3 h2 h1).fit.1
 .obtain⟨j,o,h1,h2,h3⟩:=get x hx;exact(hok j o x h3 h2 h1).fit.2.1 q z hz
theorem Way.set{R:Reg}{ops:Array Oper}{t0:Nat}{path:List dA}{i:Nat}{x y:dA}(W:Way R ops t0 path)(hy:path[i]? =some y)(hd:x.d=y.d):Way R ops t0 (path.set i x):=by
 have get:∀(j:Nat)(z:dA),(path.set i x)[j]? =some z->∃z',path[j]? =some z'/\z.d=z'.d:=λj z hz=>by
  grind
 refine⟨by simpa using W.len,λj o z ho hz=>?_,λz hz=>?_,λj k u v hu hv e=>?_,λj z hz=>?_⟩
 .obtain⟨z',h1,h2⟩:=get j z hz;rw[W.dst j o z' ho h1,h2]
 .obtain⟨j,hj⟩:=aqU hz;obtain⟨z',h1,h2⟩:=get j z hj;rw[h2];exact W.ajE z' (apY h1)
 .obtain⟨u',h1,h2⟩:=get j u hu;obtain⟨v',h3,h4⟩:=get k v hv;exact W.apart j k u' v' h1 h3 (by omega)
 .obtain⟨z',h1,h2⟩:=get j z hz;rw[h2];exact W.idx j z' h1
theorem ajF{G:iP}(hE:oG P G Θ Γ w0 M){ops:Array Oper}{Q:Exit->Act->World->Prop}{R:Reg}{t0:Nat}{path:List dA}{L L':Nat->Bool}{i:Nat}{o:Oper}
 (W:Way R ops t0 path) (hle:t0<=ops.size) (hit:i<t0)
 (hRn:R.n=st.n) (hDn:∀i o d,ops[i]? =some o->i<t0->o.dst=some d->d<st.n) (hgd:∀i o g b,ops[i]? =some o->i<t0->o.guard=some (g,b)->∃og d,ops[g]? =some og/\og.dst=some d) (hcmp:∀e∈R.E,DW R.ms R.E e=true) (hEi:∀j o',ops[j]? =some o'->j<t0->wz Γ o'.op=true->j∈R.E)
 (hA:∀e q,EL R.A e q=true->∃j,idxOf R.D (q / 64) 0=some j/\(R.ms.getD e 0).testBit j=true)
 (ho:ops[i]? =some o) (hen:Enabled Θ Γ R (bF R.D st) path i o)
 (hok:∀j o x,ops[j]? =some o->path[j]? =some x->L j=true->oH Θ Γ R (bF R.D st) path j o x)
 (hcl:∀j k,L j=true->(R.ms.getD j 0).testBit k=true->L k=true)
 (hsub:∀j,(R.ms.getD i 0).testBit j=true->L j=true) (hi:L i=false) (hi':L' i=true) (h:∀j,j≠i->L' j=L j)
 (hR:Rel w0 M T γ (after (bF R.D st) path L) a w) {K:Act->World->Prop}
 (hK:∀x γ' a' w',(∃y,path[i]? =some y/\x.d=y.d)->oH Θ Γ R (bF R.D st) (path.set i x) i o x->Rel w0 M T γ' (after (bF R.D st) (path.set i x) L') a' w'->K a' w'):
 wpOp P ops Q i K a w:=by
 obtain⟨d,hd,hm,hcase⟩:=hen;have hlen:=W.len;have hil:i<path.length:=by omega
 have hy:path[i]? =some path[i]:=by simp[hil]
 have hyd:path[i].d=d:=by
  have:=W.dst i o _ ho hy
  grind
 have hdD:aN R.D d=true:=by rw[← hyd];exact W.ajE _ (apY hy)
 have ad3:o.dst=some d\/(o.dst=none/\uI o.op=true/\st.n<=d):=by
  grind [ql]
 have hfit:=W.fits hle hok;have hne:∀y∈pick path 0 L,y.d≠d:=λy hy' e=>by
  obtain⟨j,h1,h2⟩:=(lW _ _).1 hy';rw[aqg]at h1;have:=W.apart j i y _ h2 hy (by omega)
  grind
 have heff:∀j x,path[j]? =some x->x.u≠[]->L j=true->j∈R.E:=λj x hx hu hL=>by
  obtain⟨hj,_⟩:=apC.1 hx;have hoj:ops[j]? =some (ops[j]'(by omega)):=by simp
  exact hEi j _ hoj (by omega) ((hok j _ x hoj hx hL).fit.2.2.1 hu)
 have ak2:DW R.ms R.E i=true->∀j,j∈R.E->L j=true->(R.ms.getD i 0).testBit j=true:=λhc j hjE hL=>by
  have:=apL.1 hc j hjE;rw[aqK,aqK]at this;rcases this with g|g|g
  · simp_all
  .exact g
  grind
 have hmore:(viewAt R (bF R.D st) path i).more (after (bF R.D st) path L):=
  agc hfit hsub W.idx hi (λk hk=>by
   grind) (λhc j x hx hu hL=>ak2 hc j (heff j x hx hu hL) hL) λe x hx hL q hq=>by
    obtain⟨hj,_⟩:=apC.1 hx;have hoj:ops[e]? =some (ops[e]'(by omega)):=by simp
    exact((hok e _ x hoj hx hL).fit.2.2.2 q hq).1
 have aoY:∀q,aN (mZ (pick path 0 L)) q=true->aN R.D (q / 64)=true/\q / 64≠d:=λq hq=>by
  obtain⟨x,hx,hxq⟩:=(o9 _).1 hq;obtain⟨e,h1,h2⟩:=(lW _ _).1 hx;rw[aqg]at h1;obtain⟨hj,_⟩:=apC.1 h2;have hoj:ops[e]? =some (ops[e]'(by omega)):=by simp
  have hf:=(hok e _ x hoj h2 h1).fit.2.2.2 q hxq;refine⟨hf.2,λe2=>?_⟩;obtain⟨j,g1,g2⟩:=hA e q hf.1;have:=W.idx i _ hy
  grind
 have hnone:∀q,q / 64=d->(after (bF R.D st) path L).ah q=none:=λq hq=>by
  have hqD:aN R.D (q / 64)=true:=by grind
  have hP:(kF (bF R.D st) (pick path 0 L)).ah q=none:=by
   unfold kF;dsimp only;rw[DY _ λy hy'=>by
    cases hl:look y.u q with
    |none=>rfl
    |some z=>have:=(hfit.upd y hy' q z hl).2;grind]
   dsimp only;rw[GU _ λy hy'=>by
    cases hl:look y.δ q with
    |none=>rfl
    |some z=>exact(hne y hy' ((o8 (hfit.new y hy') hl).symm.trans hq)).elim]
   exact acV hqD
  grind [after,lX,St.kill]
 have hself:∀x:dA,∀j,(R.ms.getD i 0).testBit j=true->path[j]? =(path.set i x)[j]? :=λx j hj=>by
  grind
 have fin:∀(x:dA)(γ':Nat->Value)(w':World)(u:Value),x.d=d->(o.dst=none->x.v=.kE [])->(∀q y,look x.u q=some y->aN R.U q=true/\aN R.D (q / 64)=false)->Af x.d x.δ=true->(x.u≠[]->i∈R.E)->(∀q∈x.k,aN R.D (q / 64)=true/\q / 64≠d)->
  oH Θ Γ R (bF R.D st) path i o x->Rel w0 M T γ' (((o6 x.k (after (bF R.D st) path L)).adds x.u).adds x.δ) a w'->aP (aj w0 T γ' (((o6 x.k (after (bF R.D st) path L)).adds x.u).adds x.δ) w') x.v u->K (a.put o.dst u) w':=by
  intro x γ' w' u hxd hxv hxu hxn hxE hxk D5 hR' hv;have hn2:(((o6 x.k (after (bF R.D st) path L)).adds x.u).adds x.δ).n=st.n:=by rw[(CZ _ _).2,(CZ _ _).2,lX];unfold after;rw[lX];rfl
  have alF:∀q,aN (mZ (pick (path.set i x) 0 L')) q=true->aN R.D (q / 64)=true/\q / 64≠d:=λq hq=>by
   obtain⟨y,hy1,hyq⟩:=(o9 _).1 hq;obtain⟨e,h1,h2⟩:=(lW _ _).1 hy1;rw[aqg]at h1;by_cases YI:e=i
   · grind
   grind [o9,lW]
  have akw:∀q,aN (mZ (pick (path.set i x) 0 L')) q=true->(((o6 x.k (after (bF R.D st) path L)).adds x.u).adds x.δ).ah q=none:=λq hq=>by
   obtain⟨g1,g2⟩:=alF q hq;rw[pG,pG];have hδq:look x.δ q=none:=by
    cases hl:look x.δ q with
    |none=>rfl
    |some z=>grind [o8]
   have huq:look x.u q=none:=by
    cases hl:look x.u q with
    |none=>rfl
    |some z=>grind
   rw[hδq,huq];dsimp only;rw[lX];unfold after;rw[lX];obtain⟨y,hy1,hyq⟩:=(o9 _).1 hq;obtain⟨e,h1,h2⟩:=(lW _ _).1 hy1;rw[aqg]at h1;by_cases YI:e=i
   · grind [St.kill,o7]
   .rw[aqA (arx YI)]at h2;rw[h e YI]at h1;have:=(o9 (o:=q) (pick path 0 L)).2 ⟨y,(lW _ _).2 ⟨e,by grind,h2⟩,hyq⟩;simp only[St.kill,this,aqI];cases aN x.k q<;>rfl
  have hset:Rel w0 M T γ' (St.set (((o6 x.k (after (bF R.D st) path L)).adds x.u).adds x.δ) x.d x.v) (a.put o.dst u) w':=by
   rcases ad3 with hs|⟨hs,_,hs2⟩
   .rw[hs,← hxd];exact hR'.set x.d (by grind) x.v u hv
   .rw[hs];exact hR'.alD x.d (by omega) x.v (hxv hs)
  have W':Way R ops t0 (path.set i x):=W.set hy (by rw[hxd,hyd]);have amq:Fits R.D R.U (pick (path.set i x) 0 L'):=by
   refine W'.fits (Θ:=Θ) (Γ:=Γ) (base:=bF R.D st) hle λj o' z ho' hz hL=>?_;by_cases e:j=i
   .subst e;rw[List.getElem?_set_self hil]at hz;cases hz;rw[ho]at ho';cases ho';exact D5.agree (hself x)
   .rw[aqA (arx e)]at hz;rw[h j e]at hL;refine(hok j o' z ho' hz hL).agree λk hk=>?_
    grind
  rw[ahB hil hi hi' h amq (λy hy'=>by grind) (λhu j y hj hL hy'=>by
   grind [nO]) (AV.qo akw _ _ hv) (λq y hq=>by
   have vZ:(((o6 x.k (after (bF R.D st) path L)).adds x.u).adds x.δ).ah q=some y:=by
    rw[pG,pG];rcases hq with hq|hq
    .rw[hq]
    .have:look x.δ q=none:=by
      cases hl:look x.δ q with
      |none=>rfl
      |some z=>have h1:=(hxu q y hq).2;rw[(o8 hxn hl).trans hxd,hdD]at h1;cases h1
     rw[this,hq]
   refine⟨?_,ay.qo akw y (hR'.ah q y vZ)⟩
   grind)]at hset
  exact hK x γ' _ _ ⟨_,hy,by rw[hxd,hyd]⟩ (D5.agree (hself x)) hset
 have fin2:∀(x:dA)(γ':Nat->Value)(w':World)(u:Value),x.d=d->x.u=[]->(o.dst=none->False)->Af x.d x.δ=true->(∀q∈x.k,aN R.D (q / 64)=true/\q / 64≠d)->
  oH Θ Γ R (bF R.D st) path i o (kV R.F x)->Rel w0 M T γ' (((o6 x.k (after (bF R.D st) path L)).adds []).adds x.δ) a w'->aP (aj w0 T γ' (((o6 x.k (after (bF R.D st) path L)).adds []).adds x.δ) w') x.v u->K (a.put o.dst u) w':=by
  intro x γ' w' u hxd hxu hno hxn hxk D5 hR' hv;obtain⟨l1,l2,l3,l4⟩:=mD R.F x;refine fin (kV R.F x) γ' w' u (l1.trans hxd) (λh=>(hno h).elim) (λq y hy=>by rw[l2,hxu]at hy;cases hy) (apL.2 λy hy=>by rw[l1];exact apL.1 hxn y (l4 y hy)) (λhne=>(hne (l2.trans hxu)).elim) (by rw[l3];exact hxk) D5 ?_ ?_
  all_goals
   rw[l3,l2,hxu];unfold kV;split
   .next q q' e r l fr _ hv2 hu2 hδ=>
    split
    .next hb=>
     have e1:=aps hb;subst e1;rw[hδ]at hR' hv hxn;rw[hv2]at hv;have hqd:q / 64=d:=by have:=aps (apL.1 hxn _ apB);exact this.trans hxd
     have hq0:(o6 x.k (after (bF R.D st) path L)).ah q=none:=by rw[lX];simp only[St.kill,hnone q hqd,aqI];cases aN x.k q<;>rfl
     have:=ajD (hR.o6 x.k) hq0 hR' hv
     first|exact this.1|exact this.2
    .first|exact hR'|exact hv
   .first|exact hR'|exact hv
 have hgv:∀g b y,o.guard=some (g,b)->(R.ms.getD i 0).testBit g=true->path[g]? =some y->∃og,ops[g]? =some og/\og.dst=some y.d/\∃u,a.tmps[y.d]? =some u/\aP (aj w0 T γ (after (bF R.D st) path L) w) (y.v.kill (aN (mZ (pick path 0 L)))) u:=by
  intro g b y hgo hg hy';obtain⟨hgl,_⟩:=apC.1 hy';have hog:ops[g]? =some (ops[g]'(by omega)):=by simp
  have alG:(ops[g]'(by omega)).dst=some y.d:=by obtain⟨og,e,h1,h2⟩:=hgd i o g b ho hit hgo;rw[hog]at h1;cases h1;have:=W.dst g _ y hog hy';unfold ql at this;rw[h2]at this;rw[h2];exact this
  have hyD:y.d<st.n:=hDn g _ _ hog (by omega) alG;have hin:y∈pick path 0 L:=(lW _ _).2 ⟨g,by rw[aqg];exact hsub g hg,hy'⟩;have htm:(after (bF R.D st) path L).tmps y.d=y.v.kill (aN (mZ (pick path 0 L))):=by unfold after;rw[lX];show(tX (pick path 0 L) y.d _).kill _=_;rw[QO _ hin λz hz e=>hfit.one y hin z hz e]
  have hr1:=hR.tmps y.d;rw[htm]at hr1;have hsz:y.d<a.tmps.size:=by rw[hR.size];unfold after;rw[lX];exact hyD
  refine⟨_,hog,alG,a.tmps[y.d],by simp,?_⟩;simpa[Array.getD,hsz]using hr1
 unfold wpOp;simp only[ho];rcases hcase with⟨hw,hcase⟩|hun
 .have hwant:Region.wanted o (yielded ops a.tmps)=true:=by
   rcases hw with e|⟨g,b,y,e1,e2,e3,e4⟩
   .unfold Region.wanted;rw[e]
   .obtain⟨og,k1,k2,u,k3,k4⟩:=hgv g b y e1 e2 e3;rw[e4]at k4;have k4:u=.bool b:=k4;subst k4;unfold Region.wanted;rw[e1];simp[yielded,k1,k2,k3]
  rw[if_pos hwant];left;rcases hcase with⟨he,ha,p,v,δ,hcalm,hp,hn⟩|⟨he,ha,p,q,y,happ,hp,hq1,hq2,hq3⟩|⟨he,hst,υ,hυ,hin⟩|⟨⟨he,hst⟩,p,ρ,os,hrel,hp,hall⟩
  .obtain⟨v',hc',hless⟩:=ain hmore d o.op hcalm;have hfr:iC (after (bF R.D st) path L) δ=true:=by refine apL.2 λz hz=>?_;rw[hnone z.1 (aps (apL.1 hn z hz))];rfl
   refine Gw hE hR o hc' hp hfr ?_;intro u γ' w' hR' hv';have Yh:aP (aj w0 T γ' ((after (bF R.D st) path L).adds δ) w') v u:=by
    rcases hless with e|e
    .rw[e];trivial
    .rw[← e];exact hv'
   have D5:oH Θ Γ R (bF R.D st) path i o (kV R.F ⟨d,v,[],δ,[]⟩):=by obtain⟨l1,_⟩:=mD R.F ⟨d,v,[],δ,[]⟩;refine⟨by rw[l1];exact hd,hm,.inl ⟨hw,.inl ⟨he,ha,p,v,δ,by rw[l1];exact hcalm,hp,by rw[l1];exact hn,by rw[l1]⟩⟩⟩
   exact fin2 ⟨d,v,[],δ,[]⟩ γ' w' u rfl rfl (λh=>by
    rcases ad3 with hs|⟨_,hs,_⟩
    .rw[h]at hs;cases hs
    .rw[acX hs]at he;cases he) hn (λq hq=>by cases hq) D5 hR' Yh
  .have amr:=af8 hmore happ;have D5:oH Θ Γ R (bF R.D st) path i o (kV R.F ⟨d,.sv (.one (.ref (d*64+1))),[],[(d*64+1,y)],[q]⟩):=by obtain⟨l1,_⟩:=mD R.F ⟨d,.sv (.one (.ref (d*64+1))),[],[(d*64+1,y)],[q]⟩;refine⟨by rw[l1];exact hd,hm,.inl ⟨hw,.inr (.inl ⟨he,ha,p,q,y,happ,hp,by rw[l1];exact⟨hq1,hq2,hq3⟩,by rw[l1]⟩)⟩⟩
   have hkq:∀s:St,s.kill (aN [q])=s.kill (Nat.beq q ·):=λs=>by
    rw[show aN [q]=(Nat.beq q ·)from funext λo=>by
     simp only[aN];cases h1:Nat.beq o q with
     |true=>rw[aps h1,aqs]
     |false=>
      cases h2:Nat.beq q o with
      |false=>rfl
      |true=>rw[aps h2,aqs]at h1;cases h1]
   refine aiv hE hR o (n:=d*64+1) amr hp (hnone (d*64+1) (ak1 d)) λu γ' w' hR' hv=>?_;rw[← hkq]at hR' hv;exact fin2 ⟨d,.sv (.one (.ref (d*64+1))),[],[(d*64+1,y)],[q]⟩ γ' w' u rfl rfl (λh=>by
    rcases ad3 with hs|⟨_,hs,_⟩
    .rw[h]at hs;cases hs
    .rw[acX hs]at he;cases he) (by show(Nat.beq ((d*64+1) / 64) d&&true)=true;rw[show(d*64+1) / 64=d by omega,aqs];rfl)
    (λr hr=>by rw[show r=q by simpa using hr];exact⟨hq1,hq2⟩) D5 hR' hv
  .have D5:oH Θ Γ R (bF R.D st) path i o ⟨d,.kE [],υ,[],[]⟩:=⟨hd,hm,.inl ⟨hw,.inr (.inr (.inl ⟨he,hst,υ,hυ,hin,rfl⟩))⟩⟩;obtain⟨f1,f2,f3,_⟩:=D5.fit;refine abl hE hR hmore o hυ λγ' w' hR'=>?_;exact fin ⟨d,.kE [],υ,[],[]⟩ γ' w' undef rfl (λ_=>rfl) f2 f1 (λ_=>hEi i o ho hit he) (λq hq=>by cases hq) D5 hR' ⟨#[],rfl,trivial⟩
  .refine aeZ hE hR hmore o hrel hp hnone hall λt v υ δ u γ' w' ht hres hR' hv=>?_;have D5:oH Θ Γ R (bF R.D st) path i o ⟨d,v,υ,δ,[]⟩:=⟨hd,hm,.inl ⟨hw,.inr (.inr (.inr ⟨⟨he,hst⟩,rfl,p,ρ,os,t,hrel,hp,ht,hall,hres⟩))⟩⟩;obtain⟨f1,f2,f3,_⟩:=D5.fit;exact fin ⟨d,v,υ,δ,[]⟩ γ' w' u rfl (λh=>by
    rcases ad3 with hs|⟨_,hs,_⟩
    .rw[h]at hs;cases hs
    .rw[hst]at hs;cases hs) f2 f1 (λ_=>hEi i o ho hit he) (λq hq=>by cases hq) D5 hR' hv
 .have hwant:Region.wanted o (yielded ops a.tmps)=false:=by
   obtain⟨g,b,y,e1,e2,e3,e4⟩:=hun;obtain⟨og,k1,k2,u,k3,k4⟩:=hgv g b y e1 e2 e3;unfold Region.wanted;rw[e1];rcases e4 with⟨c,e4,hne'⟩|⟨vs,e4⟩
   .rw[e4]at k4;have k4:u=.bool c:=k4;subst k4;cases c<;>cases b<;>first|(exact(hne' rfl).elim)|simp[yielded,k1,k2,k3]
   .rw[e4]at k4;obtain⟨us,rfl,_⟩:=k4;simp[yielded,k1,k2,k3]
  rw[if_neg (by rw[hwant];simp)];exact fin (skipped d) γ w undef rfl (λ_=>rfl) (λq y hy=>by cases hy) rfl (λhu=>(hu rfl).elim) (λq hq=>by cases hq) ⟨hd,hm,.inr ⟨hun,rfl⟩⟩ hR ⟨#[],rfl,trivial⟩
theorem fill{G:iP}(hE:EnvB P G Θ Γ){R:Reg}{base:St}{front:List Oper}{path:List dA}{L:Nat->Bool}
 (ND:∀ext:List dA,Wu Θ Γ R base front ext->∀o,front[ext.length]? =some o->Enabled Θ Γ R base ext ext.length o)
 (hok:∀j o x,front[j]? =some o->path[j]? =some x->L j=true->oH Θ Γ R base path j o x) (hlen:path.length=front.length)
 (hcl:∀j k,L j=true->(R.ms.getD j 0).testBit k=true->L k=true):
 ∀n,n<=front.length->∃ext:List dA,ext.length=n/\Wu Θ Γ R base front ext/\∀j,j<n->L j=true->ext[j]? =path[j]? :=by
 intro n
 induction n with
 |zero=>exactλ_=>⟨[],rfl,(λi o x _ hx=>by simp at hx),(λj hj=>by omega)⟩
 |succ n ih=>
  intro hn;obtain⟨ext,h1,h2,h3⟩:=ih (by omega);have ho:front[n]? =some (front[n]'(by omega)):=by simp
  have more:∀x:dA,oH Θ Γ R base (ext++[x]) n (front[n]'(by omega)) x->Wu Θ Γ R base front (ext++[x]):=by
   intro x hx i o y hi hy;rcases apQ i n with hlt|hge
   .rw[ahy (by omega)]at hy;have:=h2 i o y hi hy;refine this.agree λj hj=>?_;have:j<i:=by
     rcases apQ j i with h|h
     .exact h
     .rw[nO this.2.1 h]at hj;cases hj
    grind
   grind
  cases hL:L n with
  |true=>
   have hp:path[n]? =some (path[n]'(by omega)):=by simp
   have hx:=hok n _ _ ho hp hL;have hag:∀j,(R.ms.getD n 0).testBit j=true->path[j]? =(ext++[path[n]'(by omega)])[j]? :=λj hj=>by
    have hjn:j<n:=by
     rcases apQ j n with h|h
     .exact h
     .rw[nO hx.2.1 h]at hj;cases hj
    grind
   refine⟨ext++[path[n]'(by omega)],by simp[h1],more _ (hx.agree hag),λj hj hLj=>?_⟩
   grind
  |false=>
   have hen:=ND ext h2 _ (by rw[h1];exact ho);rw[h1]at hen;have hag:∀x:dA,(∃d,ql R.n n (front[n]'(by omega))=some d/\R.ms.getD n 0<2 ^ n)->∀j,(R.ms.getD n 0).testBit j=true->ext[j]? =(ext++[x])[j]? :=λx⟨_,_,hm⟩ j hj=>by
    grind [nO]
   obtain⟨d,hd,hm,hc⟩:=hen;have hx:∃x,oH Θ Γ R base ext n (front[n]'(by omega)) x:=by
    rcases hc with⟨hw,⟨he,ha,p,v,δ,hcalm,hp,hnm⟩|⟨he,ha,p,q,y,happ,hp,hq⟩|⟨he,hst,υ,hυ,hin⟩|⟨⟨he,hst⟩,p,ρ,os,hrel,hp,hall⟩⟩|hun
    .exact⟨kV R.F ⟨d,v,[],δ,[]⟩,by grind [mD],hm,.inl ⟨hw,.inl ⟨he,ha,p,v,δ,by grind [mD],hp,by grind [mD],by grind [mD]⟩⟩⟩
    .exact⟨kV R.F ⟨d,.sv (.one (.ref (d*64+1))),[],[(d*64+1,y)],[q]⟩,by grind [mD],hm,.inl ⟨hw,.inr (.inl ⟨he,ha,p,q,y,happ,hp,by grind [mD],by grind [mD]⟩)⟩⟩
    .exact⟨⟨d,.kE [],υ,[],[]⟩,hd,hm,.inl ⟨hw,.inr (.inr (.inl ⟨he,hst,υ,hυ,hin,rfl⟩))⟩⟩
    .have hne:∃t,ρ.R t:=by
      unfold LC at hrel;split at hrel
      case h_2=>cases hrel
      next f args mr hop=>
      split at hrel
      case h_2=>cases hrel
      next ms con hcon=>
      split at hrel
      case h_2=>cases hrel
      next vs os' QB=>
      split at hrel
      case h_2=>cases hrel
      split at hrel
      case h_2=>cases hrel
      next q ρ' hq=>
      cases hrel;exact((hE.adX f ms con hcon).1 vs _ ρ hq hp).1
     obtain⟨t,ht⟩:=hne;obtain⟨⟨v,υ,δ⟩,hres⟩:=hall t ht;exact⟨⟨d,v,υ,δ,[]⟩,hd,hm,.inl ⟨hw,.inr (.inr (.inr ⟨⟨he,hst⟩,rfl,p,ρ,os,t,hrel,hp,ht,hall,hres⟩))⟩⟩
    .exact⟨skipped d,hd,hm,.inr ⟨hun,rfl⟩⟩
   obtain⟨x,hx⟩:=hx;refine⟨ext++[x],by simp[h1],more x (hx.agree (hag x ⟨d,hd,hm⟩)),λj hj hLj=>?_⟩
   grind
end Go.Fw
namespace Go.Fw
open Go
variable {P:Program}
def handsOn(o:Oper):Option Operand:=match o.op,o.guard with
 |.move x,none=>some x
 |.extract x _,none=>some x
 |_,_=>none
def Operand.Iu(d:Nat):Operand->Bool
 |.tmp t=>!(Nat.beq t d)
 |_=>true
def Wv(d:Nat)(o:Oper):Bool:=match o.op,o.guard with
 |.move x,none|.assign x,none|.extract x _,none=>Operand.Iu d x
 |.store _ a x,none=>Operand.Iu d a&&Operand.Iu d x
 |_,_=>false
def passes(f o:Oper):Bool:=match handsOn f,f.dst with
 |some x,some d=>Wv d o&&(match o.dst with|some e=>!(Nat.beq e d)&&Operand.Iu e x|none=>true)
 |_,_=>false
theorem eval_put_ne{a:Act}{d:Option Tmp}{v:Value}{x:Operand}(h:∀e,d=some e->Operand.Iu e x=true):(a.put d v).eval x=a.eval x:=by
 cases d with
 |none=>rfl
 |some e=>
  cases x with
  |tmp t=>
   have hne:e≠t:=λh=>by simp_all [Operand.Iu]
   show(a.tmps.setIfInBounds e v).getD t undef=a.tmps.getD t undef
   simp_all
  |const _=>rfl
  |global _=>rfl
  |func _=>rfl
theorem put_comm{a:Act}{d e:Option Tmp}{u v:Value}(h:∀x y,d=some x->e=some y->x≠y):(a.put d u).put e v=(a.put e v).put d u:=by
 cases d with
 |none=>rfl
 |some x=>cases e with
  |none=>rfl
  |some y=>
   grind [Act.put,Array.setIfInBounds_comm]
theorem ae0{f:Oper}{x:Operand}(hf:handsOn f=some x):f.guard=none/\
 ((∃g:Value->Option Value,(∀b:Act,∀w',(match g (b.eval x)with|some u=>(execOp b.eval f).run P w'=.ok (.value u) w'|none=>∃m,(execOp b.eval f).run P w'=m/\∀next Q,¬f.upon P b next Q m)))):=by
 unfold handsOn at hf;split at hf
 .next y hop hg=>cases hf;exact⟨hg,λv=>some v,λb w'=>by simp[execOp,hop]⟩
 .next y ix hop hg=>
  cases hf;refine⟨hg,λv=>match v with|.tuple vs=>vs[ix]? |_=>none,λb w'=>?_⟩;cases hv:b.eval x with
  |tuple vs=>
   cases hq:vs[ix]? with
   |some u=>simp_all [execOp,Instr.extract]
   |none=>
    simp_all [execOp,Instr.extract,Oper.upon]
  |_=>simp[execOp,hop,hv,Instr.extract,stuck,Oper.upon]
 .cases hf
theorem adB{d:Nat}{o:Oper}(h:Wv d o=true):o.guard=none/\
 (∀(a:Act)(v:Value),execOp (a.put (some d) v).eval o=execOp a.eval o)/\
 (∀(a:Act)(w:World),(∃v w',(execOp a.eval o).run P w=.ok (.value v) w')\/(∃w',(execOp a.eval o).run P w=.ok .skip w')\/∃x w',(execOp a.eval o).run P w=.halt x w'):=by
 unfold Wv at h;have ev:∀(a:Act)(v:Value)(x:Operand),Operand.Iu d x=true->(a.put (some d) v).eval x=a.eval x:=λa v x hx=>eval_put_ne λe he=>by grind
 split at h
 · simp_all [execOp]
 · simp_all [execOp]
 .next x ix hop hg=>
  refine⟨hg,λa v=>?_,λa w=>?_⟩
  · grind [execOp]
  .cases hr:(Instr.extract (a.eval x) ix).run P w with
   |ok u w'=>simp_all [execOp]
   |halt u w'=>simp_all [execOp]
 .next t b x hop hg=>
  refine⟨hg,λa v=>?_,λa w=>?_⟩
  · grind [execOp]
  .cases hr:(Instr.storeAt t (a.eval b) (a.eval x)).run P w with
   |ok u w'=>simp_all [execOp]
   |halt u w'=>simp_all [execOp]
 .cases h
def stepW(P:Program)(ops:Array Oper)(Q:Exit->Act->World->Prop)(o:Oper)(K:Act->World->Prop)(a:Act)(w:World):Prop:=
 if Region.wanted o (yielded ops a.tmps)then o.wp P a w K Q\/(o.asks P a w/\LetsOut Q)else K (a.put o.dst undef) w
theorem NG{ops:Array Oper}{Q:Exit->Act->World->Prop}{o:Oper}{K K':Act->World->Prop}{a:Act}{w:World}(h:∀a w,K a w->K' a w)(hs:stepW P ops Q o K a w):stepW P ops Q o K' a w:=by
 grind [stepW,Oper.wp_mono]
theorem GV{ops:Array Oper}{Q:Exit->Act->World->Prop}(hO:¬LetsOut Q){o:Oper}(hg:o.guard=none){K:Act->World->Prop}{a:Act}{w:World}:stepW P ops Q o K a w↔o.wp P a w K Q:=by
 grind [Region.wanted,stepW]
theorem ahG{ops:Array Oper}{Q:Exit->Act->World->Prop}(hQ:∀c a w,¬Q (.panic c) a w)(hO:¬LetsOut Q){f o:Oper}(h:passes f o=true){K:Act->World->Prop}{a:Act}{w:World}
 (hs:stepW P ops Q f (stepW P ops Q o K) a w):stepW P ops Q o (stepW P ops Q f K) a w:=by
 unfold passes at h;split at h
 .next x d hx hd=>
  rw[apt]at h;obtain⟨hp,hde⟩:=h;obtain⟨hgf,g,hg⟩:=ae0 (P:=P) hx;obtain⟨hgo,hsame,hout⟩:=adB (P:=P) hp;rw[GV hO hgf]at hs;rw[GV hO hgo];have hxo:∀(v:Value),(a.put o.dst v).eval x=a.eval x:=λv=>eval_put_ne λe he=>by
   grind
  have hcomm:∀(u v:Value),(a.put f.dst u).put o.dst v=(a.put o.dst v).put f.dst u:=λu v=>put_comm λx y hx hy=>by intro e;simp_all
  have h0:=hg a w;cases hga:g (a.eval x)with
  |none=>
   grind [Oper.wp]
  |some u=>
   rw[hga]at h0;unfold Oper.wp at hs;rw[h0]at hs;have hs:stepW P ops Q o K (a.put f.dst u) w:=hs;rw[GV hO hgo]at hs;unfold Oper.wp at hs ⊢;rw[hd,hsame]at hs;rw[← hd]at hs;have again:∀(v:Value)(w':World),K ((a.put f.dst u).put o.dst v) w'->stepW P ops Q f K (a.put o.dst v) w':=by
    intro v w' hK;rw[GV hO hgf];have h1:=hg (a.put o.dst v) w';rw[hxo,hga]at h1;unfold Oper.wp;rw[h1];show K _ _
    grind
   rcases hout a w with⟨v,w',hr⟩|⟨w',hr⟩|⟨y,w',hr⟩
   .rw[hr]at hs ⊢;exact again v w' hs
   .rw[hr]at hs ⊢;exact again undef w' hs
   .rw[hr]at hs;cases y<;>simp only[Oper.upon]at hs
    grind
 .cases h
def FN(P:Program)(ops:Array Oper)(Q:Exit->Act->World->Prop)(K:Act->World->Prop):List Oper->Act->World->Prop
 |[]=>K
 |o::r=>stepW P ops Q o (FN P ops Q K r)
theorem Vo{ops:Array Oper}{Q:Exit->Act->World->Prop}:∀(l:List Oper),FN P ops Q (Q .normal) l=wpList P ops Q l
 |[]=>rfl
 |o::r=>by rw[FN,Vo r];rfl
theorem Wx{ops:Array Oper}{Q:Exit->Act->World->Prop}(hQ:∀c a w,¬Q (.panic c) a w)(hO:¬LetsOut Q){o:Oper}{K:Act->World->Prop}(B:List Oper):
 ∀(A:List Oper)(a:Act)(w:World),(∀f∈A,passes f o=true)->FN P ops Q K (A++o::B) a w->stepW P ops Q o (FN P ops Q K (A++B)) a w
 |[],_,_,_,hs=>hs
 |f::A,a,w,h,hs=>by exact ahG hQ hO (h f apB) (NG (λa w h'=>Wx hQ hO B A a w (λf hf=>h f (apx _ hf)) h') hs)
theorem wpOp_step{ops:Array Oper}{Q:Exit->Act->World->Prop}{i:Nat}{o:Oper}(ho:ops[i]? =some o){K:Act->World->Prop}{a:Act}{w:World}:wpOp P ops Q i K a w↔stepW P ops Q o K a w:=by
 grind [wpOp,stepW]
theorem QW{ops:Array Oper}{listed:Array Bool}(hcl:∀i j,listed.getD i false=true->((masks ops.toList []).getD i 0).testBit j=true->listed.getD j false=true){i:Nat}{o:Oper}(ho:ops[i]? =some o)
 (hi:i∈Region.ready .any ops listed) (j:Nat) (hj:((masks ops.toList []).getD i 0).testBit j=true):listed.getD j false=true:=by
 obtain⟨o',ho',hn,hall⟩:=zh.1 hi;obtain⟨e,he,hb,hej⟩:=aiJ (ops:=ops.toList) (i:=i) (o:=o) (by simpa using ho) hj
 grind
theorem ajG{ops:Array Oper}{Q:Exit->Act->World->Prop}(hQ:∀c a w,¬Q (.panic c) a w)(hO:¬LetsOut Q){t0:Nat}{S:Nat->Prop}
 (hfl:∀i o j f,ops[i]? =some o->ops[j]? =some f->j<i->t0<=i\/(S i/\S j)->((masks ops.toList []).getD i 0).testBit j=true\/(S j/\passes f o=true)) (hS:∀j,S j->j<t0)
 (hlt:∀i o,ops[i]? =some o->(masks ops.toList []).getD i 0<2 ^ i):
 ∀(fuel:Nat)(F:List (Nat×Oper))(l:List Oper)(k:Nat)(listed:Array Bool)(a:Act)(w:World),t0<=k->k<=ops.size->(∀j,l[j]? =ops[k+j]?)->listed.size=ops.size->
  (∀x∈F,ops[x.1]? =some x.2/\S x.1)->F.Pairwise (λx y=>x.1<y.1)->
  (∀i,i<ops.size->(listed.getD i false=true↔i<k/\∀x∈F,x.1≠i))->
  (∀i j,listed.getD i false=true->((masks ops.toList []).getD i 0).testBit j=true->listed.getD j false=true)->
  F.length+ops.size<=k+fuel->FN P ops Q (Q .normal) (F.map (·.2)++l) a w->wpAny P .any ops Q fuel listed a w:=by
 intro fuel;have alH:∀{i:Nat}{o:Oper},ops[i]? =some o->∀e∈o.after,Region.binds .any e=true->e.on<i:=by
  intro i o ho e he hb;have ahH:=acS (ops:=ops.toList) (i:=i) (o:=o) (by simpa using ho) he hb
  grind [nO]
 have ak3:∀(k:Nat)(l:List Oper)(listed:Array Bool),(∀j,l[j]? =ops[k+j]?)->listed.size=ops.size->(∀i,i<ops.size->(listed.getD i false=true↔i<k/\∀x∈([]:List (Nat×Oper)),x.1≠i))->l=[]->Region.ready .any ops listed=[]:=by
  intro k l listed hl hsz hL hnil;have hend:ops.size<=k:=by
   rcases apQ k ops.size with h|h
   .have:=hl 0;grind
   .exact h
  refine List.eq_nil_iff_forall_not_mem.2 λi hi=>?_
  grind [zh]
 induction fuel with
 |zero=>
  intro F l k listed a w hk hkz hl hsz hF hp hL hcl hf hw;have hk2:ops.size<=k/\F.length=0:=by omega
  obtain⟨hk2,hF0⟩:=hk2;have hFn:F=[]:=ap1.1 hF0;subst hFn;have hln:l=[]:=by
   cases l with
   |nil=>rfl
   |cons o l=>have:=hl 0;grind
  subst hln;exact wpAny_done (ak3 k [] listed hl hsz hL rfl) hw 0
 |succ fuel ih=>
  intro F l k listed a w hk hkz hl hsz hF hp hL hcl hf hw;have hset:∀i,i<listed.size->∀j,(listed.setIfInBounds i true).getD j false=(if j=i then true else listed.getD j false):=by
   intro i hi j;split
   · simp_all
   .next e=>exact getD_set_ne false (arx e)
  have aiM:∀i o,ops[i]? =some o->i∈Region.ready .any ops listed->∀j m,(listed.setIfInBounds i true).getD j false=true->((masks ops.toList []).getD j 0).testBit m=true->(listed.setIfInBounds i true).getD m false=true:=by
   intro i o ho hi j m hj hm;obtain⟨hi1,_⟩:=ap0.1 ho
   grind [QW]
  refine⟨λhnone=>?_,λi hi=>?_⟩
  .cases F with
   |cons x F=>
    exfalso;obtain⟨hx1,hx2⟩:=hF x apB;have apb:=hS _ hx2;obtain⟨hxs,_⟩:=ap0.1 hx1;have hun:listed.getD x.1 true=false:=by
     grind
    have:x.1∈Region.ready .any ops listed:=by
     grind [zh,List.pairwise_cons]
    grind
   |nil=>
    cases l with
    |nil=>exact hw
    |cons o l=>
     exfalso;have ho:ops[k]? =some o:=by simpa using(hl 0).symm
     obtain⟨hks,_⟩:=ap0.1 ho;have hun:listed.getD k true=false:=by
      rw[Jz (by omega)];cases hb:listed.getD k false with
      |false=>rfl
      |true=>have:=((hL k hks).1 hb).1;omega
     have:k∈Region.ready .any ops listed:=by refine zh.2 ⟨o,ho,hun,λe he hb=>?_⟩;have alI:=alH ho e he hb;exact(hL e.on (by omega)).2 ⟨by omega,λy hy=>by cases hy⟩
     grind
  .obtain⟨o,ho,hn,_⟩:=zh.1 hi;obtain⟨his,_⟩:=ap0.1 ho;have hun:listed.getD i false=false:=by rw[← Jz (by omega)];exact hn
   have hsub:=QW hcl ho hi;rw[wpOp_step ho];by_cases hFi:∃x∈F,x.1=i
   .obtain⟨x,hxF,rfl⟩:=hFi;obtain⟨A,B,rfl⟩:=List.append_of_mem hxF;obtain⟨hx1,hx2⟩:=hF x hxF;rw[ho]at hx1;have hxo:x.2=o:=(Option.some.inj hx1).symm;have hpA:∀y∈A,y.1<x.1:=λy hy=>(ard.1 hp).2.2 y hy x apB;have hpB:∀y∈B,x.1<y.1:=λy hy=>(ap6.1 (ard.1 hp).2.1).1 y hy;have hw2:FN P ops Q (Q .normal) (A.map (·.2)++o::(B.map (·.2)++l)) a w:=by rw[aqb,apP,hxo,aqp]at hw;exact hw
    refine NG ?_ (Wx hQ hO _ _ a w (λf hf=>?_) hw2)
    .intro a' w' h';refine ih (A++B) l k _ a' w' hk hkz hl (by simpa using hsz) (λy hy=>hF y ?_) ?_ ?_ (aiM x.1 o ho hi) ?_ (by rw[aqb,aqp];exact h')
     .rcases apX.1 hy with h|h
      .exact aqa _ h
      .exact aqw _ (apx _ h)
     .rw[ard]at hp ⊢;exact⟨hp.1,(ap6.1 hp.2.1).2,λy hy z hz=>hp.2.2 y hy z (apx _ hz)⟩
     .intro j hj;rw[hset x.1 (by omega)];split
      .next e=>
       subst e;refine⟨λ_=>⟨by have:=hS _ hx2;omega,λy hy=>?_⟩,λ_=>rfl⟩;rcases apX.1 hy with h|h
       .have:=hpA y h;omega
       .have:=hpB y h;omega
      .next e=>
       rw[hL j hj];refine and_congr_right λ_=>⟨λh y hy=>?_,λh y hy=>?_⟩
       .rcases apX.1 hy with h'|h'
        .exact h y (aqa _ h')
        .exact h y (aqw _ (apx _ h'))
       .rcases apX.1 hy with h'|h'
        .exact h y (aqa _ h')
        .rcases apN.1 h' with rfl|h'
         .exactλe'=>e e'.symm
         .exact h y (aqw _ h')
     .simp only[apT,apH]at hf ⊢;omega
    .obtain⟨y,hy,rfl⟩:=aqh.1 hf;obtain⟨hy1,hy2⟩:=hF y (aqa _ hy);obtain⟨hys,_⟩:=ap0.1 hy1;rcases hfl x.1 o y.1 y.2 ho hy1 (hpA y hy) (.inr ⟨hx2,hy2⟩)with hb|hb
     .have:=((hL y.1 hys).1 (hsub y.1 hb)).2 y (aqa _ hy) rfl;exact this.elim
     .exact hb.2
   .have hge:k<=i:=by
     rcases apQ i k with h|h
     .have:=(hL i his).2 ⟨h,λx hx e=>hFi ⟨x,hx,e⟩⟩;rw[hun]at this;cases this
     .exact h
    have hik:i=k:=by
     rcases apQ k i with h|h
     .exfalso;have hok:∃f,ops[k]? =some f:=⟨ops[k]'(by omega),by simp⟩;obtain⟨f,hof⟩:=hok;rcases hfl i o k f ho hof h (.inl (by omega))with hb|hb
      .have:=((hL k (by omega)).1 (hsub k hb)).1;omega
      .have:=hS _ hb.1;omega
     .omega
    subst hik;cases l with
    |nil=>have:=hl 0;rw[aqR,ho]at this;cases this
    |cons o' l=>
     have ho':ops[i]? =some o':=by simpa using(hl 0).symm
     rw[ho]at ho';cases ho';refine NG ?_ (Wx hQ hO _ _ a w (λf hf=>?_) hw)
     .intro a' w' h';refine ih F l (i+1) _ a' w' (by omega) (by omega) (λj=>by have:=hl (j+1);simpa[Nat.add_assoc,Nat.add_comm 1 j]using this) (by simpa using hsz) hF hp ?_ (aiM i o ho hi) (by omega) h';intro j hj;rw[hset i (by omega)];split
      .next e=>subst e;exact⟨λ_=>⟨by omega,λx hx e=>hFi ⟨x,hx,e⟩⟩,λ_=>rfl⟩
      .next e=>rw[hL j hj];exact and_congr_left λ_=>by omega
     .obtain⟨y,hy,rfl⟩:=aqh.1 hf;obtain⟨hy1,hy2⟩:=hF y hy;obtain⟨hys,_⟩:=ap0.1 hy1;have:=hS _ hy2;rcases hfl i o y.1 y.2 ho hy1 (by omega) (.inl hk)with hb|hb
      .exact(((hL y.1 hys).1 (hsub y.1 hb)).2 y hy rfl).elim
      .exact hb.2
end Go.Fw
namespace Go.Fw
open Go
variable {P:Program} {w0:World} {M:Nat->Prop} {T:Ext} {γ γ':Nat->Value} {st:St} {a:Act} {w w':World} {Θ:gI} {Γ:iT}
def ae1:Op->Bool
 |.store _ _ _=>false
 |.call {callee:=.builtin .append,.. }|.call {callee:=.builtin .copy,.. }|.call {callee:=.builtin .clear,.. }=>false
 |_=>true
def ahI(m:List Nat)(o:Oper):Bool:=match o.op,o.guard with
 |.call {callee:=.builtin .append,args,.. },none=>match args.toList with
  |.tmp t::_=>aN m t
  |_=>false
 |_,_=>false
def madeBy(m:List Nat)(o:Oper):List Nat:=match o.op,o.dst with
 |.buildSlice _ _ _,some d=>d::m
 |.call {callee:=.builtin .append,.. },some d=>d::m
 |_,_=>m
def QX:List Nat->List Oper->Nat
 |_,[]=>0
 |m,o::r=>match ae1 o.op||ahI m o with|true=>QX (madeBy m o) r+1|false=>0
def QY:List Nat->List Oper->Nat
 |_,[]=>0
 |m,o::r=>match ae1 o.op||(ahI m o||uI o.op)with|true=>QY (madeBy m o) r+1|false=>0
def agH(m:List Nat)(o:Oper):List Nat:=match o.op,o.dst with
 |.call {callee:=.value (.func _),.. },some d=>d::m
 |_,_=>madeBy m o
def YK:List Nat->List Oper->Nat
 |_,[]=>0
 |m,o::r=>match ae1 o.op||(ahI m o||uI o.op)with|true=>YK (agH m o) r+1|false=>0
def QZ:Nat->List Oper->List (Nat×Nat)
 |_,[]=>[]
 |i,o::r=>match o.op with
  |.call {callee:=.builtin .append,args,.. }=>match args.toList with
   |.tmp t::_=>(i,t*64+1)::QZ (i+1) r
   |_=>QZ (i+1) r
  |_=>QZ (i+1) r
def aiN(R:Reg):Bool:=R.A.all λx=>match idxOf R.D (x.2 / 64) 0 with
 |some j=>(R.ms.getD x.1 0).testBit j
 |none=>false
theorem ae2{e q:Nat}:∀(A:List (Nat×Nat)),EL A e q=true->(e,q)∈A
 |[],h=>by cases h
 |(e',q')::r,h=>by
  rw[EL]at h;split at h
  .next hb=>rw[apt]at hb;rw[aps hb.1,aps hb.2];exact apB
  .exact apx _ (ae2 r h)
theorem agd{R:Reg}(h:aiN R=true)(e q:Nat)(hm:EL R.A e q=true):∃j,idxOf R.D (q / 64) 0=some j/\(R.ms.getD e 0).testBit j=true:=by
 have:=apL.1 h _ (ae2 _ hm)
 grind
def FO:Nat->List Nat->Bool
 |_,[]=>true
 |i,m::r=>Nat.beq (m+1) (2 ^ i)&&FO (i+1) r
def aiO(t0:Nat)(ms:List Nat):List Nat:=(List.range t0).filter λj=>!((ms.drop t0).all λm=>m.testBit j)
def YL(ops:List Oper)(j i:Nat):Bool:=match ops[j]?,ops[i]? with
 |some f,some o=>passes f o
 |_,_=>false
def lateRow(ops:List Oper)(S:List Nat)(m i:Nat):Bool:=(List.range i).all λj=>m.testBit j||(aN S j&&YL ops j i)
def ae3(ops:List Oper)(t0:Nat)(ms:List Nat)(S:List Nat):Bool:=
 (List.range ops.length).all λi=>match Nat.ble t0 i with
   |true=>Nat.blt (ms.getD i 0) (2 ^ i)&&lateRow ops S (ms.getD i 0) i
   |false=>match aN S i with
    |true=>S.all λj=>Nat.ble i j||((ms.getD i 0).testBit j||YL ops j i)
    |false=>true
def LG(ops:List Oper)(t0:Nat)(ms:List Nat):Bool:=match FO t0 (ms.drop t0)with
 |true=>true
 |false=>ae3 ops t0 ms (aiO t0 ms)
def front(l:List Oper):Nat:=match LG l (QX [] l) (masks l [])with
 |true=>QX [] l
 |false=>match LG l (QY [] l) (masks l [])with|true=>QY [] l|false=>YK [] l
def ae4(l:List Oper):Bool:=l.all λo=>match o.guard with
 |some (g,_)=>match l[g]? with
  |some og=>og.dst.isSome
  |none=>false
 |none=>true
def agI(n:Nat)(l:List Oper):Bool:=l.all λo=>match o.dst with|some d=>Nat.blt d n|none=>true
def YM(own:Nat->Bool):List Oper->List Nat
 |[]=>[]
 |o::r=>match aeD o.op,o.dst with
  |true,some d=>match own d with|true=>YM own r|false=>d::YM own r
  |_,_=>YM own r
def abm(own:Nat->Bool)(l:List Oper)(s:St):St:=
 match YM own l with
 |[]=>s
 |z=>s.freeze λo=>aN z (o / 64)&&!(Nat.beq (o%64) 0)
def TS(d:Nat):List (Nat×Operand)->Bool
 |[]=>false
 |(_,.tmp t)::r=>Nat.beq t d||TS d r
 |_::r=>TS d r
def ams(l:List Oper)(d:Nat):Bool:=l.any λb=>match b.op,b.dst with
 |.build _ ps,some e=>TS d ps.toList&&l.any λc=>match c.op with|.buildSlice _ _ qs=>TS e qs.toList|_=>false
 |_,_=>false
def NH(l0:List Oper):List Oper->List Nat
 |[]=>[]
 |o::r=>match TR o.op,o.dst with
  |true,some d=>match ams l0 d with|true=>d::NH l0 r|false=>NH l0 r
  |_,_=>NH l0 r
def ak4(own:Nat->Bool)(l:List Oper):List Nat:=(YM own l++NH l l).filter λd=>!((QZ 0 l).any λx=>Nat.beq x.2 (d*64+1))
def nP(n:Nat)(own:Nat->Bool)(Γ:iT)(U:List Nat)(ops:List Oper):Reg:=⟨dstsOf n 0 (ops.take (front ops)),U,masks ops [],Lu Γ 0 (ops.take (front ops)),QZ 0 (ops.take (front ops)),n,ak4 own (ops.take (front ops))⟩
def Js(Θ:gI)(Γ:iT)(own:Nat->Bool)(U:List Nat)(ops:List Oper)(K:St->Prop)(st:St):Prop:=
 match nodup (nP st.n own Γ U ops).D&&(agI st.n (ops.take (front ops))&&(LG ops (front ops) (nP st.n own Γ U ops).ms&&((nP st.n own Γ U ops).E.all (DW (nP st.n own Γ U ops).ms (nP st.n own Γ U ops).E)&&(aiN (nP st.n own Γ U ops)&&ae4 ops))))with
 |true=>pX Θ Γ (nP st.n own Γ U ops) (bF (nP st.n own Γ U ops).D st) (λpath=>
   runs Θ Γ own ops K (ops.drop (front ops)) (abm own (ops.take (front ops)) (after (bF (nP st.n own Γ U ops).D st) path λ_=>true))) 0 (ops.take (front ops)) []
 |false=>False
theorem acY:∀(m:List Nat)(l:List Oper),QX m l<=l.length
 |_,[]=>apz _
 |m,o::r=>by
  rw[QX];split
  .have:=acY (madeBy m o) r;rw[apH];omega
  .exact apW _
theorem acZ:∀(m:List Nat)(l:List Oper),QY m l<=l.length
 |_,[]=>apz _
 |m,o::r=>by
  rw[QY];split
  .have:=acZ (madeBy m o) r;rw[apH];omega
  .exact apW _
theorem ac0:∀(m:List Nat)(l:List Oper),YK m l<=l.length
 |_,[]=>apz _
 |m,o::r=>by
  rw[YK];split
  .have:=ac0 (agH m o) r;rw[apH];omega
  .exact apW _
theorem ajH(l:List Oper):front l<=l.length:=by
 grind [front,acY,acZ,ac0]
theorem adC{l:List Oper}(h:ae4 l=true){i:Nat}{o:Oper}{g:Nat}{b:Bool}(ho:l[i]? =some o)(hg:o.guard=some (g,b)):∃og d,l[g]? =some og/\og.dst=some d:=by
 have:=apL.1 h o (apY ho)
 grind [Option.isSome_iff_exists]
theorem ae5{n:Nat}{l:List Oper}(h:agI n l=true){i:Nat}{o:Oper}{d:Nat}(ho:l[i]? =some o)(hd:o.dst=some d):d<n:=by
 have:=apL.1 h o (apY ho)
 simp_all
theorem Vp:∀{l:List Nat}{k:Nat},FO k l=true->∀i m,l[i]? =some m->m+1=2 ^ (k+i)
 |[],_,_,i,m,hm=>by simp at hm
 |x::r,k,h,0,m,hm=>by
  grind [FO,Nat.eq_of_beq_eq_true]
 |x::r,k,h,i+1,m,hm=>by
  rw[FO,apt]at h;have:=Vp h.2 i m (by simpa using hm)
  grind
theorem Q5:∀(l:List Oper)(acc:List Nat),(masks l acc).length=acc.length+l.length
 |[],acc=>by simp[masks]
 |o::r,acc=>by rw[masks,Q5 r];simp;omega
theorem YN:∀{l:List Nat},nodup l=true->∀(i j:Nat)(x:Nat),l[i]? =some x->l[j]? =some x->i=j
 |[],_,i,j,x,hi,_=>by simp at hi
 |y::r,h,i,j,x,hi,hj=>by
  rw[nodup,apt]at h;have hno:y ∉ r:=λhm=>by have:=o7.2 hm;rw[this]at h;simp at h
  match i,j with
  |0,0=>rfl
  |0,j+1=>simp at hi hj;exact(hno (hi▸apY hj)).elim
  |i+1,0=>simp at hi hj;exact(hno (hj▸apY hi)).elim
  |i+1,j+1=>rw[YN h.2 i j x hi hj]
theorem GX{n:Nat}:∀{l:List Oper}{k:Nat},(∀(i:Nat)(o:Oper),l[i]? =some o->∃d,ql n (k+i) o=some d)->∀(i:Nat)(o:Oper)(d:Nat),l[i]? =some o->ql n (k+i) o=some d->(dstsOf n k l)[i]? =some d
 |[],_,_,i,o,d,hi,_=>by simp at hi
 |x::r,k,h,i,o,d,hi,hd=>by
  obtain⟨e,he⟩:=h 0 x rfl;rw[aqR]at he;rw[dstsOf,he]
  match i with
  |0=>grind
  |i+1=>simp;exact GX (k:=k+1) (λj o' hj=>by rw[show k+1+j=k+(j+1) by omega];simp_all) i o d (by simpa using hi) (by grind)
theorem ae6{ops:List Oper}{S:List Nat}{m i:Nat}(h:lateRow ops S m i=true){j:Nat}(hj:j<i){o f:Oper}(ho:ops[i]? =some o)(hf:ops[j]? =some f):m.testBit j=true\/(aN S j=true/\passes f o=true):=by
 have:=apL.1 h j (aqC.2 hj)
 grind [YL]
theorem O4{ops:List Oper}{t0:Nat}{ms S:List Nat}(h:ae3 ops t0 ms S=true){i:Nat}{o:Oper}(ho:ops[i]? =some o):
 (t0<=i->ms.getD i 0<2 ^ i)/\∀{j:Nat}{f:Oper},ops[j]? =some f->j<i->t0<=i\/(aN S i=true/\aN S j=true)->(ms.getD i 0).testBit j=true\/(aN S j=true/\passes f o=true):=by
 obtain⟨hi,_⟩:=apC.1 ho;have:=apL.1 h i (aqC.2 hi)
 grind [Nat.blt_eq,ae6,Nat.ble_eq_true_of_le,o7,YL,Nat.le_of_ble_eq_true]
theorem YO(L:Nat->Bool):∀(n:Nat),((List.range n).filter λi=>!(L i)).length=Dc L n
 |0=>rfl
 |n+1=>by
  rw[arG,aqL,apT,YO L n,Dc];cases h:L n
  .simp[h,Nat.add_comm]
  .simp[h]
theorem ae7(L:Nat->Bool){t0:Nat}(h:∀i,t0<=i->L i=false):∀(n:Nat),t0<=n->Dc L n=Dc L t0+(n-t0)
 |0,hn=>by
  grind
 |n+1,hn=>by
  rcases apQ n t0 with h'|h'
  .have:t0=n+1:=by omega
   subst this;simp
  .rw[Dc,h n h',ae7 L h n h'];simp only;omega
structure TT(Θ:gI)(Γ:iT)(w0:World)(M:Nat->Prop)(T:Ext)(st:St)(R:Reg)(ops:Array Oper)(t0:Nat)(listed:Array Bool)(path:List dA)(γ:Nat->Value)(a:Act)(w:World):Prop where
 way:Way R ops t0 path
 size:listed.size=ops.size
 tail:∀i,t0<=i->listed.getD i false=false
 shut:∀i j,listed.getD i false=true->((masks ops.toList []).getD i 0).testBit j=true->listed.getD j false=true
 ok:∀j o x,ops[j]? =some o->path[j]? =some x->listed.getD j false=true->oH Θ Γ R (bF R.D st) path j o x
 rel:Rel w0 M T γ (after (bF R.D st) path λi=>listed.getD i false) a w
theorem aiP{G:iP}(hE:oG P G Θ Γ w0 M){ops:Array Oper}{Q:Exit->Act->World->Prop}(hQ:∀c a w,¬Q (.panic c) a w)(hO:¬LetsOut Q){R:Reg}{t0:Nat}{K:List dA->Prop}(ht0:t0<=ops.size)(hms:R.ms=masks ops.toList [])
 (hRn:R.n=st.n) (hDn:∀i o d,ops[i]? =some o->i<t0->o.dst=some d->d<st.n) (hgd:∀i o g b,ops[i]? =some o->i<t0->o.guard=some (g,b)->∃og d,ops[g]? =some og/\og.dst=some d) (hcmp:∀e∈R.E,DW R.ms R.E e=true) (hEi:∀j o',ops[j]? =some o'->j<t0->wz Γ o'.op=true->j∈R.E)
 (hA:∀e q,EL R.A e q=true->∃j,idxOf R.D (q / 64) 0=some j/\(R.ms.getD e 0).testBit j=true)
 (ND:∀ext:List dA,ext.length<=t0->Wu Θ Γ R (bF R.D st) (ops.toList.take t0) ext->(ext.length=t0->K ext)/\∀o,(ops.toList.take t0)[ext.length]? =some o->Enabled Θ Γ R (bF R.D st) ext ext.length o)
 {S:Nat->Prop} (hfl:∀i o j f,ops[i]? =some o->ops[j]? =some f->j<i->t0<=i\/(S i/\S j)->((masks ops.toList []).getD i 0).testBit j=true\/(S j/\passes f o=true)) (hS:∀j,S j->j<t0)
 (hlt:∀i o,ops[i]? =some o->(masks ops.toList []).getD i 0<2 ^ i)
 (hend:∀path γ' a' w',K path->path.length=t0->Rel w0 M T γ' (after (bF R.D st) path λ_=>true) a' w'->wpList P ops Q (ops.toList.drop t0) a' w'):
 ∀(fuel:Nat)(listed:Array Bool)(path:List dA)(γ:Nat->Value)(a:Act)(w:World),TT Θ Γ w0 M T st R ops t0 listed path γ a w->
  Dc (λi=>listed.getD i false) ops.size<=fuel->wpAny P .any ops Q fuel listed a w:=by
 have aaZ:(ops.toList.take t0).length=t0:=by simp;omega
 have hget:∀j o,(ops.toList.take t0)[j]? =some o↔j<t0/\ops[j]? =some o:=λj o=>by
  grind
 have fin:∀(listed:Array Bool)(path:List dA)(γ:Nat->Value)(a:Act)(w:World),TT Θ Γ w0 M T st R ops t0 listed path γ a w->
  (∀i,i<t0->listed.getD i false=true)->wpList P ops Q (ops.toList.drop t0) a w:=by
  intro listed path γ a w I hdone;have hR:=I.rel;have hK:K path:=by refine(ND path (by rw[I.way.len];omega) λi o x hi hx=>?_).1 I.way.len;obtain⟨h1,h2⟩:=(hget i o).1 hi;exact I.ok i o x h2 hx (hdone i h1)
  have hsame:after (bF R.D st) path (λi=>listed.getD i false)=after (bF R.D st) path λ_=>true:=by
   unfold after;have:∀(l:List dA)(j:Nat),j+l.length<=t0->pick l j (λi=>listed.getD i false)=pick l j λ_=>true:=by
    intro l
    induction l with
    |nil=>intros;rfl
    |cons y l ih=>
     grind [pick]
   rw[this path 0 (by rw[I.way.len];omega)]
  rw[hsame]at hR;exact hend path γ a w hK I.way.len hR
 have step:∀(listed:Array Bool)(path:List dA)(γ:Nat->Value)(a:Act)(w:World),TT Θ Γ w0 M T st R ops t0 listed path γ a w->∀(i:Nat)(o:Oper),ops[i]? =some o->i<t0->listed.getD i false=false->
  (∀j,((masks ops.toList []).getD i 0).testBit j=true->listed.getD j false=true)->∀(K':Act->World->Prop),
  (∀path' γ' a' w',TT Θ Γ w0 M T st R ops t0 (listed.setIfInBounds i true) path' γ' a' w'->K' a' w')->wpOp P ops Q i K' a w:=by
  intro listed path γ a w I i o ho hit hil hsub K' hK';obtain⟨W,hsz,htl,hcl,hok,hR⟩:=I;have hen:Enabled Θ Γ R (bF R.D st) path i o:=by
   obtain⟨ext,g1,g2,g3⟩:=fill hE.toEnvB (R:=R) (base:=bF R.D st) (front:=ops.toList.take t0) (path:=path) (L:=λi=>listed.getD i false)
    (λext hc o' ho'=>(ND ext (by
      grind) hc).2 o' ho')
    (λj o' x ho' hx hL=>hok j o' x ((hget j o').1 ho').2 hx hL) (by rw[W.len,aaZ]) (λj k hL hk=>hcl j k hL (by grind)) i (by omega)
   have:=(ND ext (by omega) g2).2 o ((hget _ o).2 ⟨by omega,by grind⟩);rw[g1]at this;refine this.agree λj hj=>?_
   grind [nO]
  have hset:∀j,(listed.setIfInBounds i true).getD j false=(if j=i then true else listed.getD j false):=by
   intro j;split
   .next e=>subst e;simp[Array.getD,show j<listed.size by omega]
   .next e=>exact getD_set_ne false (arx e)
  refine ajF hE (L:=λi=>listed.getD i false) (L':=λj=>(listed.setIfInBounds i true).getD j false) W ht0 hit hRn hDn hgd hcmp hEi hA ho hen hok (λj k hL hk=>hcl j k hL (by grind)) (λj hj=>hsub j (by grind)) hil
   (by grind) (λj hj=>by grind) hR ?_
  intro x γ' a' w' ⟨y,hy,hxy⟩ hx hR';refine hK' (path.set i x) γ' a' w' ⟨W.set hy hxy,by simpa using hsz,?_,?_,?_,hR'⟩
  · grind
  .intro j k hj hk;rw[hset]at hj ⊢
   grind
  .intro j o' z ho' hz hL;obtain⟨apc,_⟩:=apC.1 hy;by_cases e:j=i
   · grind
   .rw[aqA (arx e)]at hz;rw[hset,if_neg e]at hL;refine(hok j o' z ho' hz hL).agree λk hk=>?_
    grind [List.getElem?_set_ne]
 have pend:∀(F:List (Nat×Oper))(listed:Array Bool)(path:List dA)(γ:Nat->Value)(a:Act)(w:World),TT Θ Γ w0 M T st R ops t0 listed path γ a w->
  (∀x∈F,ops[x.1]? =some x.2/\x.1<t0)->F.Pairwise (λx y=>x.1<y.1)->(∀i,i<t0->(listed.getD i false=true↔∀x∈F,x.1≠i))->
  FN P ops Q (Q .normal) (F.map (·.2)++ops.toList.drop t0) a w:=by
  intro F
  induction F with
  |nil=>
   intro listed path γ a w I _ _ hL;rw[List.map_nil,List.nil_append,Vo]
   grind
  |cons x F ih=>
   intro listed path γ a w I hF hp hL;obtain⟨hx1,hx2⟩:=hF x apB;have hpx:=(ap6.1 hp).1;have hun:listed.getD x.1 false=false:=by
    grind
   refine(wpOp_step hx1).1 (step listed path γ a w I x.1 x.2 hx1 hx2 hun (λj hj=>?_) _ λpath' γ' a' w' I'=>?_)
   · grind [nO]
   .refine ih _ path' γ' a' w' I' (λy hy=>hF y (apx _ hy)) (ap6.1 hp).2 λi hi=>?_;have hxs:x.1<listed.size:=by rw[I.size];exact(ap0.1 hx1).1
    by_cases e:i=x.1
    .subst e;refine⟨λ_ y hy=>by have:=hpx y hy;omega,λ_=>by simp[Array.getD,hxs]⟩
    .rw[getD_set_ne false (arx e),hL i hi];refine⟨λh y hy=>h y (apx _ hy),λh y hy=>?_⟩;rcases apN.1 hy with rfl|hy
     .exactλe'=>e e'.symm
     .exact h y hy
 have late:∀(fuel:Nat)(listed:Array Bool)(path:List dA)(γ:Nat->Value)(a:Act)(w:World),TT Θ Γ w0 M T st R ops t0 listed path γ a w->Dc (λi=>listed.getD i false) ops.size<=fuel->
  (∀i,i<t0->¬S i->listed.getD i false=true)->wpAny P .any ops Q fuel listed a w:=by
  intro fuel listed path γ a w I hf hd;have hcount:=ae7 (λi=>listed.getD i false) I.tail ops.size ht0;have hlen:=YO (λi=>listed.getD i false) t0;have hmem:∀x,x∈((List.range t0).filter λi=>!(listed.getD i false)).map (λi=>(i,(ops[i]?).getD default))↔∃i,i<t0/\listed.getD i false=false/\(i,(ops[i]?).getD default)=x:=by intro x;simp only[aqh,aqv,aqC,ars,and_assoc]
  have alK:∀i,i<t0->ops[i]? =some ((ops[i]?).getD default):=λi hi=>by
   have:ops[i]? =some (ops[i]'(by omega)):=by simp
   rw[this];rfl
  have akx:(((List.range t0).filter λi=>!(listed.getD i false)).map (λi=>(i,(ops[i]?).getD default))).Pairwise (λx y=>x.1<y.1):=by rw[aqN];exact(List.pairwise_lt_range (n:=t0)).filter _
  refine ajG hQ hO hfl hS hlt fuel (((List.range t0).filter λi=>!(listed.getD i false)).map (λi=>(i,(ops[i]?).getD default))) (ops.toList.drop t0) t0 listed a w (apz _) ht0 (λj=>by simp) I.size ?_ akx ?_ I.shut ?_ ?_
  .intro x hx;obtain⟨i,h1,h2,rfl⟩:=(hmem x).1 hx;refine⟨alK i h1,ap2 λhno=>?_⟩;have:=hd i h1 hno;rw[h2]at this;cases this
  .intro i hi;refine⟨λh=>⟨?_,λx hx e=>?_⟩,λ⟨h1,h2⟩=>?_⟩
   .rcases apQ i t0 with h'|h'
    .exact h'
    .rw[I.tail i h']at h;cases h
   .obtain⟨j,_,h2,rfl⟩:=(hmem x).1 hx;subst e;rw[h2]at h;cases h
   .cases hb:listed.getD i false with
    |true=>rfl
    |false=>exact(h2 _ ((hmem _).2 ⟨i,h1,hb,rfl⟩) rfl).elim
  .rw[apD,hlen];omega
  .refine pend _ listed path γ a w I (λx hx=>?_) akx λi hi=>⟨λh x hx e=>?_,λh=>?_⟩
   .obtain⟨i,h1,_,rfl⟩:=(hmem x).1 hx;exact⟨alK i h1,h1⟩
   .obtain⟨j,_,h2,rfl⟩:=(hmem x).1 hx;subst e;rw[h2]at h;cases h
   .cases hb:listed.getD i false with
    |true=>rfl
    |false=>exact(h _ ((hmem _).2 ⟨i,hi,hb,rfl⟩) rfl).elim
 intro fuel
 induction fuel with
 |zero=>
  intro listed path γ a w I hf;have hall:∀i,i<ops.size->listed.getD i false=true:=aeX (L:=λi=>listed.getD i false) ops.size (by omega);exact late 0 listed path γ a w I hf λi hi _=>hall i (by omega)
 |succ fuel ih=>
  intro listed path γ a w I hf;by_cases hdone:∀i,i<t0->¬S i->listed.getD i false=true
  .exact late (fuel+1) listed path γ a w I hf hdone
  .obtain⟨W,hsz,htl,hcl,hok,hR⟩:=id I;have hex:∃i,i<t0/\¬S i/\listed.getD i false=false:=by
    refine ap2 λhno=>hdone λi hi hn=>?_;cases hl:listed.getD i false with
    |true=>rfl
    |false=>exact(hno ⟨i,hi,hn,hl⟩).elim
   obtain⟨i1,hi1,hS1,hl1⟩:=hex;obtain⟨i0,hi0,hl0,hmin⟩:=least (p:=λi=>listed.getD i false=false) t0 ⟨i1,hi1,hl1⟩;have aiQ:i0∈Region.ready .any ops listed:=by
    have hisz:i0<ops.size:=by omega
    refine zh.2 ⟨ops[i0],by simp[hisz],by rw[Jz (by omega)];exact hl0,λe he hb=>?_⟩;have hoi:ops.toList[i0]? =some ops[i0]:=by simp[hisz]
    have ahH:=acS hoi he hb;have alI:e.on<i0:=by
     rcases apQ e.on i0 with h|h
     .exact h
     .rw[nO (hlt i0 ops[i0] (by simp[hisz])) h]at ahH;cases ahH
    cases hl:listed.getD e.on false with
    |true=>rfl
    |false=>exact(hmin e.on alI hl).elim
   refine⟨λh=>(by rw[h]at aiQ;cases aiQ),λi hi=>?_⟩;obtain⟨o,ho,hn,hall⟩:=zh.1 hi;obtain⟨hisz,_⟩:=ap0.1 ho;have hil:listed.getD i false=false:=by rw[← Jz (by omega)];exact hn
   have hsub:=QW hcl ho hi;have hit:i<t0:=by
    rcases apQ i t0 with h|h
    .exact h
    .have ho1:ops[i1]? =some (ops[i1]'(by omega)):=by simp
     rcases hfl i o i1 _ ho ho1 (by omega) (.inl h)with hb|hb
     .have:=hsub i1 hb;rw[hl1]at this;cases this
     .exact(hS1 hb.1).elim
   refine step listed path γ a w I i o ho hit hil hsub _ λpath' γ' a' w' I'=>ih _ path' γ' a' w' I' ?_;have hset:∀j,(listed.setIfInBounds i true).getD j false=(if j=i then true else listed.getD j false):=by
    intro j;split
    .next e=>subst e;simp[Array.getD,show j<listed.size by omega]
    .next e=>exact getD_set_ne false (arx e)
   have:=agG (L:=λi=>listed.getD i false) (L':=λj=>(listed.setIfInBounds i true).getD j false) (i:=i) hil (by simp only[hset,if_true]) (λj hj=>by simp only[hset,if_neg hj]) ops.size hisz;omega
theorem Vq{ops:Array Oper}{t0:Nat}(h:FO t0 ((masks ops.toList []).drop t0)=true){i:Nat}{o:Oper}(ho:ops[i]? =some o)(hi:t0<=i):(masks ops.toList []).getD i 0+1=2 ^ i:=by
 have hml:(masks ops.toList []).length=ops.size:=by rw[Q5];simp
 have hg:((masks ops.toList []).drop t0)[i-t0]? =some ((masks ops.toList []).getD i 0):=by
  grind
 grind [Vp]
theorem aiw{G:iP}(hE:oG P G Θ Γ w0 M)(hm:P.follows .mixedOrders=true){own:Nat->Bool}{U:List Nat}{id:Nat}{ops:Array Oper}{K:St->Prop}{Q:Exit->Act->World->Prop}(h:Rel w0 M T γ st a w)
 (hr:Js Θ Γ own U ops.toList K st) (hn:∀s γ' a' w',K s->Rel w0 M T γ' s a' w'->Q .normal a' w'):(Code.region id ops true).wp P Q a w:=by
 unfold Js at hr;split at hr
 case h_2=>exact hr.elim
 next hb=>
 rw[apt,apt,apt,apt]at hb;obtain⟨hnd,hlt,htl,hcmp,ad4⟩:=hb;rw[apt]at ad4;obtain⟨ad4,aop⟩:=ad4;have ht0:front ops.toList<=ops.size:=by grind [ajH]
 have hfl:(ops.toList.take (front ops.toList)).length=front ops.toList:=by simp;omega
 have ND:=λ(ext:List dA)(hle:ext.length<=front ops.toList)(hc:Wu Θ Γ (nP st.n own Γ U ops.toList) (bF (nP st.n own Γ U ops.toList).D st) (ops.toList.take (front ops.toList)) ext)=>
  Vf (ops.toList.take (front ops.toList)) [] [] ext rfl (by omega) hr (by simpa using hc)
 simp only[List.nil_append,apV,aqg,hfl]at ND;have hall:∃ext:List dA,ext.length=front ops.toList/\Wu Θ Γ (nP st.n own Γ U ops.toList) (bF (nP st.n own Γ U ops.toList).D st) (ops.toList.take (front ops.toList)) ext:=by
  obtain⟨ext,g1,g2,_⟩:=fill hE.toEnvB (R:=nP st.n own Γ U ops.toList) (base:=bF (nP st.n own Γ U ops.toList).D st) (front:=ops.toList.take (front ops.toList)) (path:=List.replicate (front ops.toList) (skipped 0)) (L:=λ_=>false)
   (λext hc o' ho'=>(ND ext (by
     grind) hc).2 o' ho') (λ_ _ _ _ _ h=>by cases h) (by simp[hfl]) (λ_ _ h=>by cases h) (front ops.toList) (by omega)
  grind
 obtain⟨alL,hl0,hc0⟩:=hall;have alM:∀i,i<front ops.toList->∃o d,ops[i]? =some o/\(ops.toList.take (front ops.toList))[i]? =some o/\ql st.n i o=some d/\(nP st.n own Γ U ops.toList).ms.getD i 0<2 ^ i:=by
  intro i hi;have ho:ops[i]? =some (ops[i]'(by omega)):=by simp
  have ho2:(ops.toList.take (front ops.toList))[i]? =some (ops[i]'(by omega)):=by grind
  have hx:alL[i]? =some (alL[i]'(by omega)):=by simp
  obtain⟨h1,h2,_⟩:=hc0 i _ _ ho2 hx;exact⟨_,_,ho,ho2,h1,h2⟩
 have hdst:∀(i:Nat)(o:Oper),(ops.toList.take (front ops.toList))[i]? =some o->∃d,ql st.n (0+i) o=some d:=by
  grind
 have hbound:∀i o,ops[i]? =some o->front ops.toList<=i->(masks ops.toList []).getD i 0<2 ^ i:=by
  intro i o ho hi;unfold LG at htl;split at htl
  .next hb=>have:=Vq (show FO _ ((masks ops.toList []).drop _)=true from hb) ho hi;omega
  .exact(O4 htl (by simpa using ho)).1 hi
 have amu:∃S:Nat->Prop,(∀i o j f,ops[i]? =some o->ops[j]? =some f->j<i->front ops.toList<=i\/(S i/\S j)->((masks ops.toList []).getD i 0).testBit j=true\/(S j/\passes f o=true))/\∀j,S j->j<front ops.toList:=by
  unfold LG at htl;split at htl
  .next hb=>
   refine⟨λ_=>False,λi o j f ho _ hj hi=>.inl ?_,λ_ h=>h.elim⟩;rcases hi with hi|hi
   .have h1:=Vq (show FO _ ((masks ops.toList []).drop _)=true from hb) ho hi;have h2:(masks ops.toList []).getD i 0=2 ^ i-1:=by omega
    grind
   grind
  .refine⟨λj=>aN (aiO (front ops.toList) (nP st.n own Γ U ops.toList).ms) j=true,λi o j f ho hf hj hi=>?_,λj hj=>?_⟩
   .exact(O4 htl (by simpa using ho)).2 (by simpa using hf) hj hi
   .have:=o7.1 hj;exact aqC.1 (aqv.1 this).1
 obtain⟨S,anz,hS⟩:=amu
 let ahJ:List dA:=(ops.toList.take (front ops.toList)).mapIdx λi o=>skipped ((ql st.n i o).getD 0)
 have hp0:∀(i:Nat)(x:dA),ahJ[i]? =some x->∃o,(ops.toList.take (front ops.toList))[i]? =some o/\ql st.n (0+i) o=some x.d:=by
  grind [skipped]
 have W0:Way (nP st.n own Γ U ops.toList) ops (front ops.toList) ahJ:=by
  refine⟨by grind,λi o x ho hx=>?_,λx hx=>?_,λi j x y hx hy hxy=>?_,λi x hx=>?_⟩
  .obtain⟨o',h1,h2⟩:=hp0 i x hx;obtain⟨hi,_⟩:=apC.1 h1;rw[aqG (by omega)]at h1;have:ops[i]? =some o':=by simpa using h1
   rw[ho]at this;cases this;rw[aqg]at h2;exact h2
  .obtain⟨i,hi⟩:=aqU hx;obtain⟨o',h1,h2⟩:=hp0 i x hi;exact o7.2 (YG _ 0 i h1 h2)
  .obtain⟨o1,h1,h2⟩:=hp0 i x hx;obtain⟨o2,h3,h4⟩:=hp0 j y hy;have g1:=GX hdst i o1 x.d h1 h2;have g2:=GX hdst j o2 y.d h3 h4;rw[← hxy]at g2;exact YN hnd i j x.d g1 g2
  .obtain⟨o1,h1,h2⟩:=hp0 i x hx;have:=acW _ 0 i x.d hnd (GX hdst i o1 x.d h1 h2)
   grind
 refine Code.wp_mono (Q:=λe a' w'=>match e with|.normal=>∃s γ',K s/\Rel w0 M T γ' s a' w'|_=>False) (λe a' w' he=>?_) ?_
 · grind
 refine wp_region_any hm ?_;refine aiP (w0:=w0) (M:=M) (T:=T) hE (λ_ _ _ h=>h) (λ⟨_,_,h⟩=>h) (R:=nP st.n own Γ U ops.toList) (t0:=front ops.toList) ht0 rfl rfl ?_ (λi o g b ho _ hg=>by
  grind [adC]) (λe he=>apL.1 hcmp e he) ?_ (agd ad4) ND anz hS ?_ ?_ ops.size _ ahJ γ _ _
  ⟨W0,by simp,?_,?_,?_,?_⟩ ?_
 .intro i o d ho hi hd;exact ae5 hlt (i:=i) (by grind) hd
 .intro j o' ho' hj he;have:=YJ (Γ:=Γ) (ops.toList.take (front ops.toList)) 0 j o' (by grind) he;rw[aqg]at this;exact this
 .intro i o ho;rcases apQ i (front ops.toList)with hi|hi
  .obtain⟨_,_,_,_,_,h⟩:=alM i hi;exact h
  grind
 .intro path γ' a' w' hK _ hR;have aoZ:Rel w0 M T γ' (abm own (ops.toList.take (front ops.toList)) (after (bF (nP st.n own Γ U ops.toList).D st) path λ_=>true)) a' w':=by
   unfold abm;split
   .exact hR
   .exact hR.freeze _
  grind [GH]
 .intro i _;simp[Array.getD]
 .intro i j hi;exfalso;simp[Array.getD]at hi
 .intro j o x _ _ hi;exfalso;simp[Array.getD]at hi
 .have:=(h.drew (w.drawn+1))|>λh=>ajC h (nP st.n own Γ U ops.toList).D;rw[ahC (λi=>by simp[Array.getD])];exact this
 .have:∀n,Dc (λi=>(Array.replicate ops.size false).getD i false) n<=n:=by
   intro n
   induction n with
   |zero=>exact apz _
   |succ n ih=>grind [Dc]
  exact this _
end Go.Fw
