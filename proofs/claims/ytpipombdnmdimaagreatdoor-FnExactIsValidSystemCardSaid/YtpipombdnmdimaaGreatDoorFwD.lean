import Derived.Test.YtpipombdnmdimaaGreatDoorFwB
namespace Go.Fw
open Go
variable {P:Program} {w0:World} {M:Nat->Prop} {T:Ext} {γ γ':Nat->Value} {st:St} {a:Act} {w w':World} {Θ:jY} {Γ:kY}
structure fE where
 d:Nat
 v:AV
 u:List (Nat×aI)
 δ:List (Nat×aI)
 k:List Nat
def Ij(b:List Nat):List Edge->Nat
 |[]=>0
 |e::r=>match Region.binds .any e with
  |true=>(2 ^ e.on|||b.getD e.on 0)|||Ij b r
  |false=>Ij b r
def masks:List Oper->List Nat->List Nat
 |[],acc=>acc
 |o::r,acc=>masks r (acc++[Ij acc o.after.toList])
def pick:List fE->Nat->(Nat->Bool)->List fE
 |[],_,_=>[]
 |x::r,j,m=>match m j with|true=>x::pick r (j+1) m|false=>pick r (j+1) m
def CO:List fE->Nat->AV->AV
 |[],_,b=>b
 |x::r,t,b=>match Nat.beq t x.d with|true=>x.v|false=>CO r t b
def lookO:List fE->Nat->Option aI->Option aI
 |[],_,b=>b
 |x::r,o,b=>match look x.δ o with|some y=>some y|none=>lookO r o b
def uI:List fE->Nat->Option aI
 |[],_=>none
 |x::r,o=>match uI r o with|some y=>some y|none=>look x.u o
def pI(base:St)(l:List fE):St:=
 {n:=base.n,tmps:=λt=>CO l t (base.tmps t),ah:=λo=>match uI l o with|some y=>some y|none=>lookO l o (base.ah o)}
def tJ:List fE->List Nat
 |[]=>[]
 |x::r=>x.k++tJ r
def wP(l:List Nat)(st:St):St:=match l with|[]=>st|l=>st.kill (bn l)
def after(base:St)(path:List fE)(m:Nat->Bool):St:=wP (tJ (pick path 0 m)) (pI base (pick path 0 m))
def Cell.touch(S:Nat->Bool):Cell->Bool
 |.ref o=>S o
 |_=>false
def SV.touch(S:Nat->Bool):SV->Bool
 |.one c=>c.touch S
 |.agg cs=>cs.any (Cell.touch S)
def AV.touch(S:Nat->Bool):AV->Bool
 |.undef=>false
 |.sv v=>v.touch S
 |.pG vs=>vs.any (SV.touch S)
 |.eG o _=>S o
 |.qf o _ _=>S o
 |.win o _ _=>S o
 |.sS _ _ _ _=>false
 |.dH A _=>A.any (Cell.touch S)
 |.fn _ caps=>caps.any λA=>A.any (Cell.touch S)
def aI.touch(S:Nat->Bool):aI->Bool
 |.var cs=>cs.any (Cell.touch S)
 |.arr _ _ _ _=>false
def St.akQ(st:St)(L:List Nat):St:=match L with
 |[]=>st
 |L=>{n:=st.n,tmps:=λt=>match (st.tmps t).touch (bn L)with|true=>.undef|false=>st.tmps t,
      ah:=λo=>match bn L o with|true=>none|false=>match st.ah o with|some x=>(match x.touch (bn L)with|true=>none|false=>some x)|none=>none}
def an7(b:List Nat)(i:Nat):List (Nat×Nat)->List Nat
 |[]=>[]
 |(e,q)::r=>match Nat.beq e i||((b.getD i 0).testBit e||(b.getD e 0).testBit i)with|true=>an7 b i r|false=>q::an7 b i r
def Pq:List (Nat×Nat)->Nat->Nat->Bool
 |[],_,_=>false
 |(e,q)::r,i,o=>match Nat.beq e i&&Nat.beq q o with|true=>true|false=>Pq r i o
def afF:Op->Bool
 |.call {callee:=.builtin .append,.. }=>true
 |_=>false
def DL:Op->Bool
 |.store _ _ _=>true
 |_=>false
def yg(n i:Nat)(o:Oper):Option Nat:=match o.dst with
 |some d=>some d
 |none=>match DL o.op with|true=>some (n+i)|false=>none
def dstsOf(n:Nat):Nat->List Oper->List Nat
 |_,[]=>[]
 |i,o::r=>match yg n i o with|some d=>d::dstsOf n (i+1) r|none=>dstsOf n (i+1) r
def nodup:List Nat->Bool
 |[]=>true
 |x::r=>!(bn r x)&&nodup r
def dn(D:List Nat)(st:St):St:=st.kill λo=>bn D (o / 64)
def Ju(d:Nat)(δ:List (Nat×aI)):Bool:=δ.all λx=>Nat.beq (x.1 / 64) d
def St.hide(st:St)(U:List Nat):St:={st with ah:=λo=>match bn U o with|true=>none|false=>st.ah o}
def EW(Γ:kY)(o:Op):Bool:=match o with
 |.call {callee:=.value (.func f),.. }=>match Γ f with|some (.eff _ _)=>true|_=>false
 |.store _ _ _=>true
 |_=>false
def Yn(Γ:kY):Nat->List Oper->List Nat
 |_,[]=>[]
 |i,o::r=>match EW Γ o.op with|true=>i::Yn Γ (i+1) r|false=>Yn Γ (i+1) r
def NV(b:List Nat)(E:List Nat)(i:Nat):Bool:=E.all λe=>Nat.beq e i||((b.getD i 0).testBit e||(b.getD e 0).testBit i)
def yh(st:St)(m:Mode)(x:AV):Option (Arg×Option Nat):=
 match m with
 |.val=>match rJ st [x]with
  |some [a]=>some (a,none)
  |_=>none
 |m=>vK st m x
def DN(st:St):List Mode->List AV->Option (List Arg×List (Option Nat))
 |_,[]=>some ([],[])
 |ms,x::xs=>match yh st (ms.headD .val) x,DN st ms.tail xs with
  |some (a,o),some (as,os)=>some (a::as,o::os)
  |_,_=>none
def Arg.aCo:Arg->Bool
 |.own _ _ _=>false
 |_=>true
def Yo(Γ:kY)(st:St):Op->Option (Prop×Xc×(List (Option Nat)×Bool))
 |.call {callee:=.value (.func f),args,.. }=>match Γ f with
  |some (.eff ms con)=>match DN st ms (handed st args.toList [])with
   |some (vs,os)=>match ND (KA ms (handed st args.toList []))||vs.all Arg.aCo with
    |true=>match con vs with
     |some (p,ρ)=>some (p,ρ,(os,!(ND (KA ms (handed st args.toList [])))))
     |none=>none
    |false=>none
   |none=>none
  |_=>none
 |_=>none
def Ui(Θ:jY)(st:St):Op->Option (List (Nat×aI))
 |.store t p x=>match st.ev x,Θ t,st.ev p with
  |.sv v,some ti,.eG o off=>match Nat.beq v.cells.length ti.cells.len,st.ah o with
   |true,some (.var cs)=>match Nat.ble (off+v.cells.length) cs.length with
    |true=>some [(o,.var (splice cs off v.cells))]
    |false=>none
   |_,_=>none
  |_,_,_=>none
 |_=>none
def awJ(D U:List Nat)(b:List (Nat×aI)):Bool:=b.all λy=>bn U y.1&&!(bn D (y.1 / 64))
def adD:List (Option Nat)->List Eff->Bool
 |[],_=>true
 |none::os,aV=>adD os aV.tail
 |some _::os,aV=>match aV.head? with|some (.var _)=>adD os aV.tail|_=>false
def NY(D U:List Nat)(d:Nat)(st:St)(os:List (Option Nat)×Bool)(out:Out)(b:List Eff):Option (AV×List (Nat×aI)×List (Nat×aI)):=
 match DF os.1&&(Qu b (out.take (d*64+1)).2&&(adD os.1 b&&(Ju d (out.take (d*64+1)).2&&(!os.2||(out.made&&Ub b))))),qR st os.1 b with
 |true,some υ=>match υ.all λy=>bn U y.1&&!(bn D (y.1 / 64))with
  |true=>some ((out.take (d*64+1)).1,υ,(out.take (d*64+1)).2)
  |false=>none
 |_,_=>none
structure Reg where
 D:List Nat
 U:List Nat
 ms:List Nat
 E:List Nat
 A:List (Nat×Nat)
 n:Nat
 F:List Nat
def qK(F:List Nat)(x:fE):fE:=match bn F x.d,x.v,x.u,x.δ with
 |true,.sv (.one (.ref q)),[],[(q',.arr e r l fr)]=>match Nat.beq q q' with
  |true=>⟨x.d,.sv (.one (.sl e r l fr)),[],[],x.k⟩
  |false=>x
 |_,_,_,_=>x
theorem sH(F:List Nat)(x:fE):(qK F x).d=x.d/\(qK F x).u=x.u/\(qK F x).k=x.k/\∀y∈(qK F x).δ,y∈x.δ:=by
 grind [qK]
def idxOf:List Nat->Nat->Nat->Option Nat
 |[],_,_=>none
 |x::r,t,j=>match Nat.beq t x with|true=>some j|false=>idxOf r t (j+1)
def aiw(R:Reg)(i t:Nat):Bool:=match idxOf R.D t 0 with
 |some j=>!(Nat.beq j i||((R.ms.getD i 0).testBit j||(R.ms.getD j 0).testBit i))
 |none=>false
def St.veil(st:St)(R:Reg)(i:Nat):St:={st with tmps:=λt=>match aiw R i t with|true=>.undef|false=>st.tmps t}
def viewAt(R:Reg)(base:St)(b:List fE)(i:Nat):St:=
 ((match NV R.ms R.E i with
 |true=>after base b (R.ms.getD i 0).testBit
 |false=>(after base b (R.ms.getD i 0).testBit).hide R.U).veil R i).akQ (an7 R.ms i R.A)
def Tf(Θ:jY)(Γ:kY)(R:Reg)(base:St)(i:Nat)(o:Oper)(d:Nat)(b:List fE)(K:List fE->Prop):Prop:=
 match EW Γ o.op with
 |true=>match DL o.op with
  |true=>match Ui Θ (viewAt R base b i) o.op with
   |some υ=>match awJ R.D R.U υ with
    |true=>K (b++[⟨d,.pG [],υ,[],[]⟩])
    |false=>False
   |none=>False
  |false=>match Yo Γ (viewAt R base b i) o.op with
   |some (p,ρ,os)=>p/\∀t,ρ.R t->match NY R.D R.U d (viewAt R base b i) os (ρ.out t) (ρ.aV t)with
    |some (v,υ,δ)=>K (b++[⟨d,v,υ,δ,[]⟩])
    |none=>False
   |none=>False
 |false=>match afF o.op with
  |true=>match KD Θ (viewAt R base b i) o.op with
   |some (p,q,x)=>match bn R.D (q / 64)&&(!(Nat.beq (q / 64) d)&&Pq R.A i q)with
    |true=>p/\K (b++[qK R.F ⟨d,.sv (.one (.ref (d*64+1))),[],[(d*64+1,x)],[q]⟩])
    |false=>False
   |none=>False
  |false=>match calm Θ Γ d (viewAt R base b i) o.op with
   |some (p,v,δ)=>match Ju d δ,quiet (viewAt R base b i) o.op with
    |true,true=>K (b++[qK R.F ⟨d,v,[],δ,[]⟩])
    |true,false=>p/\K (b++[qK R.F ⟨d,v,[],δ,[]⟩])
    |false,_=>False
   |none=>False
def fix(g:Nat)(b:Bool)(d:List fE):List fE:=
 match d[g]? with
 |some x=>d.set g {x with v:=.sv (.one (.bool b))}
 |none=>d
def skipped(d:Nat):fE:=⟨d,.pG [],[],[],[]⟩
def xK(Θ:jY)(Γ:kY)(R:Reg)(base:St)(K:List fE->Prop):Nat->List Oper->List fE->Prop
 |_,[],acc=>K acc
 |i,o::r,acc=>match yg R.n i o,Nat.blt (R.ms.getD i 0) (2 ^ i)with
  |some d,true=>match o.guard with
   |none=>Tf Θ Γ R base i o d acc (xK Θ Γ R base K (i+1) r)
   |some (g,b)=>match (R.ms.getD i 0).testBit g,acc[g]? with
    |true,some x=>match x.v with
     |.sv (.one (.bool c))=>cond c
      (match b with
        |true=>Tf Θ Γ R base i o d (fix g true acc) (xK Θ Γ R base K (i+1) r)
        |false=>xK Θ Γ R base K (i+1) r (fix g true acc++[skipped d]))
      (match b with
        |false=>Tf Θ Γ R base i o d (fix g false acc) (xK Θ Γ R base K (i+1) r)
        |true=>xK Θ Γ R base K (i+1) r (fix g false acc++[skipped d]))
     |.pG _=>xK Θ Γ R base K (i+1) r (acc++[skipped d])
     |_=>False
    |_,_=>False
  |_,_=>False
def Wanted(R:Reg)(path:List fE)(i:Nat)(o:Oper):Prop:=
 o.guard=none\/∃g b y,o.guard=some (g,b)/\(R.ms.getD i 0).testBit g=true/\path[g]? =some y/\y.v=.sv (.one (.bool b))
def aix(R:Reg)(path:List fE)(i:Nat)(o:Oper):Prop:=
 ∃g b y,o.guard=some (g,b)/\(R.ms.getD i 0).testBit g=true/\path[g]? =some y/\((∃c,y.v=.sv (.one (.bool c))/\c≠b)\/∃I,y.v=.pG I)
def vN(Θ:jY)(Γ:kY)(R:Reg)(base:St)(path:List fE)(i:Nat)(o:Oper)(x:fE):Prop:=
 yg R.n i o=some x.d/\(R.ms.getD i 0)<2 ^ i/\
 ((Wanted R path i o/\
    ((EW Γ o.op=false/\afF o.op=false/\∃p v e,calm Θ Γ x.d (viewAt R base path i) o.op=some (p,v,e)/\p/\Ju x.d e=true/\x=qK R.F ⟨x.d,v,[],e,[]⟩)\/
     (EW Γ o.op=false/\afF o.op=true/\∃p q y,KD Θ (viewAt R base path i) o.op=some (p,q,y)/\p/\(bn R.D (q / 64)=true/\q / 64≠x.d/\Pq R.A i q=true)/\
       x=qK R.F ⟨x.d,.sv (.one (.ref (x.d*64+1))),[],[(x.d*64+1,y)],[q]⟩)\/
     (EW Γ o.op=true/\DL o.op=true/\∃f,Ui Θ (viewAt R base path i) o.op=some f/\awJ R.D R.U f=true/\x=⟨x.d,.pG [],f,[],[]⟩)\/
     ((EW Γ o.op=true/\DL o.op=false)/\x.k=[]/\∃p b d t,Yo Γ (viewAt R base path i) o.op=some (p,b,d)/\p/\b.R t/\
        (∀t,b.R t->∃r,NY R.D R.U x.d (viewAt R base path i) d (b.out t) (b.aV t)=some r)/\
        NY R.D R.U x.d (viewAt R base path i) d (b.out t) (b.aV t)=some (x.v,x.u,x.δ))))\/
  (aix R path i o/\x=skipped x.d))
def Enabled(Θ:jY)(Γ:kY)(R:Reg)(base:St)(path:List fE)(i:Nat)(o:Oper):Prop:=
 ∃d,yg R.n i o=some d/\(R.ms.getD i 0)<2 ^ i/\
 ((Wanted R path i o/\
    ((EW Γ o.op=false/\afF o.op=false/\∃p v f,calm Θ Γ d (viewAt R base path i) o.op=some (p,v,f)/\p/\Ju d f=true)\/
     (EW Γ o.op=false/\afF o.op=true/\∃p q y,KD Θ (viewAt R base path i) o.op=some (p,q,y)/\p/\(bn R.D (q / 64)=true/\q / 64≠d/\Pq R.A i q=true))\/
     (EW Γ o.op=true/\DL o.op=true/\∃g,Ui Θ (viewAt R base path i) o.op=some g/\awJ R.D R.U g=true)\/
     ((EW Γ o.op=true/\DL o.op=false)/\∃p b e,Yo Γ (viewAt R base path i) o.op=some (p,b,e)/\p/\
        ∀t,b.R t->∃r,NY R.D R.U d (viewAt R base path i) e (b.out t) (b.aV t)=some r)))\/
  aix R path i o)
variable {x:fE}
theorem asF{g:Nat}{b:Bool}{d:List fE}(h:d[g]? =some x)(K:x.v=.sv (.one (.bool b))):fix g b d=d:=by
 unfold fix;rw[h];obtain⟨e,Z⟩:=aHN.1 h;refine aIF λi=>?_;by_cases D:i=g
 .cases x
  grind
 grind
theorem ap0:∀(l:List fE)(j:Nat)(m:Nat->Bool),(∀i,j<=i->m i=false)->pick l j m=[]
 |[],_,_,_=>rfl
 |x::r,j,m,h=>by rw[pick,h j (aHv _)];exact ap0 r (j+1) m λi D=>h i lu
theorem Xi(r:List fE)(m:Nat->Bool):∀(l:List fE)(j:Nat),pick (l++r) j m=pick l j m++pick r (j+l.length) m
 |[],j=>by simp[pick]
 |x::l,j=>by rw[aIC,pick,pick,Xi r m l (j+1),aHx,show j+1+l.length=j+(l.length+1)from lu];cases m j<;>rfl
theorem Sv{m:Nat->Bool}:∀(l d:List fE)(j:Nat),(∀i,m (j+i)=true->l[i]? =d[i]?)->pick l j m=pick d j m
 |[],[],_,_=>rfl
 |[],y::r,j,h=>by
  cases b:m j with
  |true=>have:=h 0 amW;simp at this
  |false=>
   rw[pick,pick,b];exact Sv [] r (j+1) λi D=>by have:=h (i+1) (by rw[show j+(i+1)=j+1+i from lu];exact D);simpa using this
 |x::l,[],j,h=>by
  cases b:m j with
  |true=>have:=h 0 amW;simp at this
  |false=>
   rw[pick,pick,b];exact Sv l [] (j+1) λi D=>by have:=h (i+1) (by rw[show j+(i+1)=j+1+i from lu];exact D);simpa using this
 |x::l,y::r,j,h=>by
  have e:=Sv l r (j+1) λi D=>by have:=h (i+1) (by rw[show j+(i+1)=j+1+i from lu];exact D);grind
  rw[pick,pick];cases b:m j with
  |true=>have:=h 0 amW;grind
  |false=>exact e
theorem rQ{m:Nat->Bool}{x:fE}:∀(l:List fE)(j:Nat),x∈pick l j m↔∃i,m (j+i)=true/\l[i]? =some x
 |[],j=>by simp[pick]
 |y::l,j=>by
  have b:=rQ (m:=m) (x:=x) l (j+1);rw[pick];cases d:m j with
  |true=>
   simp only[aHH,b];constructor
   .rintro(rfl|⟨i,h1,h2⟩)
    .exact⟨0,ald,rfl⟩
    .exact⟨i+1,ny,by simpa using h2⟩
   grind
  |false=>
   simp only[b];constructor
   .rintro⟨i,h1,h2⟩;exact⟨i+1,ny,by simpa using h2⟩
   grind
variable {i:Nat}
theorem uJ{m j:Nat}(h:m<2 ^ i)(b:i<=j):m.testBit j=false:=
 Nat.testBit_lt_two_pow (aHR h (Nat.pow_le_pow_right lZ b))
variable {R:Reg}{base:St}{l l':List fE}
theorem Uj(h:∀j,(R.ms.getD i 0).testBit j=true->l[j]? =l'[j]?):viewAt R base l i=viewAt R base l' i:=by
 grind [viewAt,after,Sv]
variable {o:Oper}
theorem vN.agree(h:∀j,(R.ms.getD i 0).testBit j=true->l[j]? =l'[j]?)(W:vN Θ Γ R base l i o x):vN Θ Γ R base l' i o x:=by
 obtain⟨E,O,U⟩:=W;refine⟨E,O,?_⟩;rw[← Uj h];refine U.imp (And.imp (Or.imp id ?_) id) (And.imp ?_ id)
 · grind
 .rintro⟨g,b,y,e1,e2,e3,e4⟩;exact⟨g,b,y,e1,e2,h g e2▸e3,e4⟩
theorem Enabled.agree(h:∀j,(R.ms.getD i 0).testBit j=true->l[j]? =l'[j]?)(W:Enabled Θ Γ R base l i o):Enabled Θ Γ R base l' i o:=by
 obtain⟨d,E,O,U⟩:=W;refine⟨d,E,O,?_⟩;rw[← Uj h];refine U.imp (And.imp (Or.imp id ?_) id) ?_
 · grind
 .rintro⟨g,b,y,e1,e2,e3,e4⟩;exact⟨g,b,y,e1,e2,h g e2▸e3,e4⟩
theorem wQ{l:List Nat}{x:Nat}:bn l x=true↔x∈l:=by
 induction l with
 |nil=>simp[bn]
 |cons y l ih=>
  rw[bn,aHH];cases J:Nat.beq x y with
  |true=>simp_all
  |false=>
   simp only[ih];constructor
   .exact .inr
   .rintro(rfl|h)
    .simp at J
    .exact h
theorem akR{n:Nat}{o:Oper}{d:Nat}:∀(l:List Oper)(i j:Nat),l[j]? =some o->yg n (i+j) o=some d->d∈dstsOf n i l
 |[],_,_,ho,_=>by simp at ho
 |x::r,i,0,ho,hd=>by
  grind [dstsOf]
 |x::r,i,j+1,ho,hd=>by
  have:=akR r (i+1) j (by simpa using ho) (by rw[show i+1+j=i+(j+1)from lu];exact hd);rw[dstsOf];split
  .exact aHC _ this
  .exact this
def aiy(Θ:jY)(Γ:kY)(R:Reg)(base:St)(ops:List Oper)(path:List fE):Prop:=
 ∀i o x,ops[i]? =some o->path[i]? =some x->vN Θ Γ R base path i o x
theorem awK{b ext:List fE}{j:Nat}(h:j<b.length):(b++ext)[j]? =b[j]? :=aIz h
theorem ahn{R:Reg}{base:St}{K:List fE->Prop}:∀(e f:List Oper)(k ext:List fE),k.length=f.length->ext.length<=e.length->
 xK Θ Γ R base K f.length e k->aiy Θ Γ R base (f++e) (k++ext)->
 (ext.length=e.length->K (k++ext))/\∀o,e[ext.length]? =some o->Enabled Θ Γ R base (k++ext) (f.length+ext.length) o
 |[],f,k,ext,hl,hle,hr,hc=>by
  simp_all [xK]
 |o::e,f,k,ext,hl,hle,hr,hc=>by
  rw[xK]at hr;split at hr
  case h_2=>exact hr.elim
  next d hd hm=>
  have Q:R.ms.getD f.length 0<2 ^ f.length:=XH;have J:(Wanted R k f.length o/\Tf Θ Γ R base f.length o d k (xK Θ Γ R base K (f.length+1) e))\/
   (aix R k f.length o/\xK Θ Γ R base K (f.length+1) e (k++[skipped d])):=by
   split at hr
   .next hg=>exact .inl ⟨.inl hg,hr⟩
   .next g b hg=>
    split at hr
    .next x hbit Z=>
     split at hr
     .next c hc'=>
      cases c
      .simp only[aJA,asF Z hc']at hr;cases b
       .exact .inl ⟨.inr ⟨g,false,x,hg,hbit,Z,hc'⟩,hr⟩
       .exact .inr ⟨⟨g,true,x,hg,hbit,Z,.inl ⟨false,hc',vk⟩⟩,hr⟩
      .simp only[aKa,asF Z hc']at hr;cases b
       .exact .inr ⟨⟨g,false,x,hg,hbit,Z,.inl ⟨true,hc',vk⟩⟩,hr⟩
       .exact .inl ⟨.inr ⟨g,true,x,hg,hbit,Z,hc'⟩,hr⟩
     .next vs hc'=>exact .inr ⟨⟨g,b,x,hg,hbit,Z,.inr ⟨vs,hc'⟩⟩,hr⟩
     grind
    grind
  have z:∀ext:List fE,∀j,(R.ms.getD f.length 0).testBit j=true->k[j]? =(k++ext)[j]? :=by
   grind [uJ]
  cases ext with
  |nil=>
   refine⟨λh=>XD,λW C=>?_⟩;have:W=o:=ny;subst this;rw[aH1];simp only[aHG,aJn];refine⟨d,hd,Q,?_⟩;rcases J with⟨s,X⟩|⟨s,_⟩
   .refine .inl ⟨s,?_⟩;unfold Tf at X;split at X
    · grind
    grind [Nat.beq_refl,ZF]
   grind
  |cons x ext=>
   have Z:vN Θ Γ R base (k++x::ext) f.length o x:=by
    refine hc f.length o x ?_ ?_
    · grind
    grind
   obtain⟨e1,_,A⟩:=Z;have S:x.d=d:=ny;have L:viewAt R base k f.length=viewAt R base (k++x::ext) f.length:=Uj (z _);have n:xK Θ Γ R base K (f.length+1) e (k++[x]):=by
    rcases J with⟨s,X⟩|⟨s,X⟩
    .rcases A with⟨_,A⟩|⟨⟨g,b,y,f1,f2,f3,f4⟩,_⟩
     .rw[← L,S]at A;unfold Tf at X;rcases A with⟨B,Y,p,v,δ,m,_,H,I⟩|⟨B,Y,p,q,y,happ,_,_,I⟩|⟨B,E,υ,hυ,N,I⟩|⟨⟨B,E⟩,u,p,ρ,os,t,hrel,_,r,_,D⟩
      .rw[B,Y]at X;simp only[m]at X;split at X
       · grind
       · grind
       grind
      · grind
      · grind
      .rw[B,E]at X;simp only[hrel]at X;have O:=X.2 t r;simp only[D]at O;have ex:x=⟨d,x.v,x.u,x.δ,[]⟩:=by cases x;grind
       grind
     .exfalso;rw[← z _ g f2]at f3;rcases s with s|⟨g',b',y',k1,k2,k3,k4⟩
      · grind
      grind
    .rcases A with⟨F,_⟩|⟨_,f1⟩
     .exfalso;obtain⟨g,b,y,k1,k2,k3,k4⟩:=s;rcases F with F|⟨g',b',y',l1,l2,l3,l4⟩
      · grind
      grind
     grind
   have U:=ahn e (f++[o]) (k++[x]) ext (by simp[hl]) (by simpa using hle) (by simpa using n) (by simpa using hc);simp only[aHO,List.singleton_append,aHu,aHx,aHG]at U;refine⟨λh=>U.1 y7,λW C=>?_⟩;have:=U.2 W (by simpa using C);rw[show f.length+(0+1)+ext.length=f.length+(ext.length+1)from lu]at this;omega
theorem LD(b:List Nat)(j:Nat):∀(d:List Edge),(Ij b d).testBit j=true↔∃e∈d,Region.binds .any e=true/\(e.on=j\/(b.getD e.on 0).testBit j=true)
 |[]=>by simp[Ij]
 |e::r=>by
  rw[Ij];cases J:Region.binds .any e with
  |false=>
   simp only[LD b j r,aHH];constructor
   .rintro⟨e',h1,h2⟩;exact⟨e',.inr h1,h2⟩
   .rintro⟨e',rfl|h1,h2⟩
    .rw[J]at h2;cases h2.1
    .exact⟨e',h1,h2⟩
  |true=>
   simp only[Nat.testBit_or,aIS,LD b j r,aHH,Nat.testBit_two_pow,aHM];constructor
   .rintro((h|h)|⟨e',h1,h2⟩)
    .exact⟨e,.inl rfl,J,.inl h⟩
    .exact⟨e,.inl rfl,J,.inr h⟩
    .exact⟨e',.inr h1,h2⟩
   .rintro⟨e',rfl|h1,h2⟩
    .exact .inl h2.2
    .exact .inr ⟨e',h1,h2⟩
theorem ZL:∀(l:List Oper)(b:List Nat)(i:Nat),i<b.length->(masks l b).getD i 0=b.getD i 0
 |[],_,_,_=>rfl
 |o::r,b,i,h=>by rw[masks,ZL r _ i KW];simp[aHI,aIz h]
theorem ZM:∀(l:List Oper)(b:List Nat)(i:Nat)(o:Oper),l[i]? =some o->∃d,(masks l b).getD (b.length+i) 0=Ij d o.after.toList/\
 (∀j,j<d.length->(masks l b).getD j 0=d.getD j 0)
 |[],_,_,_,h=>XD
 |o::r,b,0,o',h=>by
  refine⟨b,?_,λj e=>?_⟩
  · grind [masks,ZL]
  grind [ZL]
 |o::r,b,i+1,o',h=>by
  obtain⟨d,E,O⟩:=ZM r (b++[Ij b o.after.toList]) i o' y7
  grind [masks]
theorem ap1{ops:List Oper}(F:ops[i]? =some o){e:Edge}(g:e∈o.after)(J:Region.binds .any e=true):((masks ops []).getD i 0).testBit e.on=true:=by
 obtain⟨b,E,_⟩:=ZM ops [] i o F
 grind [LD]
theorem ax3{ops:List Oper}(F:ops[i]? =some o){j:Nat}(d:((masks ops []).getD i 0).testBit j=true):
 ∃e∈o.after,Region.binds .any e=true/\(e.on=j\/((masks ops []).getD e.on 0).testBit j=true):=by
 obtain⟨b,E,O⟩:=ZM ops [] i o F
 grind [LD]
def MN(L:Nat->Bool):Nat->Nat
 |0=>0
 |n+1=>(match L n with|true=>0|false=>1)+MN L n
theorem ap2{L L':Nat->Bool}:∀(n:Nat),(∀i,i<n->L i=L' i)->MN L n=MN L' n
 |0,_=>rfl
 |n+1,h=>by rw[MN,MN,h n lu,ap2 n λi D=>h i lu]
theorem avq{L L':Nat->Bool}{i:Nat}(D:L i=false)(b:L' i=true)(h:∀j,j≠i->L' j=L j):∀(n:Nat),i<n->MN L' n+1=MN L n
 |0,hn=>lu
 |n+1,hn=>by
  rw[MN,MN];by_cases e:n=i
  · grind [ap2]
  .have:=avq D b h n lu
   grind
theorem asG{L:Nat->Bool}:∀(n:Nat),MN L n=0->∀i,i<n->L i=true
 |0,_,i,hi=>lu
 |n+1,h,i,hi=>by
  rw[MN]at h;cases Q:L n with
  |false=>grind
  |true=>
   by_cases e:i=n
   · grind
   .exact asG n lu i lu
theorem least{p:Nat->Prop}[DecidablePred p]:∀(n:Nat),(∃i,i<n/\p i)->∃i,i<n/\p i/\∀j,j<i->¬p j:=by
 intro n
 induction n using Nat.strongRecOn with
 |_ n ih=>
  rintro⟨i,hi,hp⟩;by_cases h:∃j,j<i/\p j
  · grind
  grind
structure Fits(D U:List Nat)(l:List fE):Prop where
 one:∀x∈l,∀y∈l,x.d=y.d->x=y
 mem:∀x∈l,bn D x.d=true
 new:∀x∈l,Ju x.d x.δ=true
 upd:∀x∈l,∀o y,look x.u o=some y->bn U o=true/\bn D (o / 64)=false
theorem wR{d:Nat}{δ:List (Nat×aI)}(h:Ju d δ=true){o:Nat}{y:aI}(Q:look δ o=some y):o / 64=d:=
 aHA (aHS.1 h _ (Bo δ o y Q))
theorem akS{t:Nat}{b:AV}:∀(l:List fE),(∀x∈l,x.d≠t)->CO l t b=b
 |[],_=>rfl
 |x::r,h=>by
  rw[CO];have:Nat.beq t x.d=false:=by
   cases J:Nat.beq t x.d with
   |false=>rfl
   |true=>exact(h x aHJ (aHA J).symm).elim
  rw[this];exact akS r λy B=>h y (aHC _ B)
theorem adE{b:AV}{x:fE}:∀(l:List fE),x∈l->(∀y∈l,x.d=y.d->x=y)->CO l x.d b=x.v
 |[],h,_=>zH
 |y::r,h,hu=>by
  rw[CO];cases J:Nat.beq x.d y.d with
  |true=>simp_all
  |false=>
   rcases aHH.1 h with rfl|h
   .simp at J
   .exact adE r h λz d=>hu z (aHC _ d)
theorem Sz{o:Nat}{b:Option aI}:∀(l:List fE),(∀x∈l,look x.δ o=none)->lookO l o b=b
 |[],_=>rfl
 |x::r,h=>by rw[lookO,h x aHJ];exact Sz r λy B=>h y (aHC _ B)
theorem ap3{o:Nat}{b:Option aI}{x:fE}{z:aI}:∀(l:List fE),x∈l->look x.δ o=some z->(∀y∈l,∀d,look y.δ o=some d->x=y)->lookO l o b=some z
 |[],h,_,_=>zH
 |y::r,h,hz,hu=>by
  rw[lookO];cases B:look y.δ o with
  |some d=>have:=hu y aHJ d B;subst this;rw[hz]at B;exact B.symm
  |none=>
   rcases aHH.1 h with rfl|h
   .rw[hz]at B;cases B
   .exact ap3 r h hz λw e=>hu w (aHC _ e)
theorem NZ{o:Nat}:∀(l:List fE),(∀x∈l,look x.u o=none)->uI l o=none
 |[],_=>rfl
 |x::r,h=>by rw[uI,NZ r λy B=>h y (aHC _ B)];exact h x aHJ
theorem Uk{o:Nat}(r:List fE):∀(l:List fE),uI (l++r) o=match uI r o with|some y=>some y|none=>uI l o
 |[]=>by grind [uI]
 |x::l=>by rw[aIC,uI,Uk r l,uI];cases uI r o<;>rfl
theorem aho{o:Nat}{m m':Nat->Bool}:∀(l:List fE)(j:Nat),(∀i x,l[i]? =some x->x.u≠[]->m (j+i)=m' (j+i))->uI (pick l j m) o=uI (pick l j m') o
 |[],_,_=>rfl
 |x::r,j,h=>by
  have d:=aho (o:=o) (m:=m) (m':=m') r (j+1) (λi y D B=>by
   have:=h (i+1) y aqP B
   grind)
  have S:=h 0 x rfl;rw[pick,pick];cases e:m j<;>cases b:m' j
  .exact d
  · grind [uI,look]
  · grind [uI,look]
  grind [uI]
theorem ahp{x:fE}{t:Nat}{b:AV}(r:List fE):∀(l:List fE),(∀y∈l,y.d≠x.d)->CO (l++x::r) t b=match Nat.beq t x.d with|true=>x.v|false=>CO (l++r) t b
 |[],_=>by grind [CO]
 |y::l,h=>by
  rw[aIC,aIC,CO,ahp r l λz e=>h z (aHC _ e),CO];cases J:Nat.beq t y.d with
  |false=>rfl
  |true=>
   have:Nat.beq t x.d=false:=by
    cases d:Nat.beq t x.d with
    |false=>rfl
    |true=>exact(h y aHJ ((aHA J).symm.trans (aHA d))).elim
   rw[this]
theorem ahq{x:fE}{o:Nat}{b:Option aI}(r:List fE):∀(l:List fE),(∀y∈l,∀z d,look y.δ o=some z->look x.δ o=some d->False)->
 lookO (l++x::r) o b=match look x.δ o with|some y=>some y|none=>lookO (l++r) o b
 |[],_=>by grind [lookO]
 |y::l,h=>by
  rw[aIC,aIC,lookO,ahq r l λz e=>h z (aHC _ e),lookO];cases B:look y.δ o with
  |none=>rfl
  |some z=>
   cases Z:look x.δ o with
   |none=>rfl
   |some d=>exact(h y aHJ z d B Z).elim
variable {D U:List Nat}
theorem auK{r:List fE}(q:Fits D U (l++x::r))(e:∀y∈l++r,y.d≠x.d)(u:x.u≠[]->∀y∈r,y.u=[]):
 (((pI base (l++r)).adds x.u).adds x.δ).set x.d x.v=pI base (l++x::r):=by
 have Z:x∈l++x::r:=vk;have d:∀y∈l++r,y∈l++x::r:=λy B=>by
  grind
 have h:(((pI base (l++r)).adds x.u).adds x.δ).set x.d x.v={n:=base.n,tmps:=λt=>match Nat.beq t x.d with|true=>x.v|false=>CO (l++r) t (base.tmps t),ah:=(((pI base (l++r)).adds x.u).adds x.δ).ah}:=by rw[afy,afy (pI base (l++r)) x.u];rfl
 rw[h];congr 1
 · grind [ahp]
 · funext o
   rw[xw,xw];have k:=ahq (x:=x) (o:=o) (b:=base.ah o) r l λy B z E A g=>e y (aIh _ B) ((wR (q.new y (d y (aIh _ B))) A).symm.trans (wR (q.new x Z) g));have m:uI (l++x::r) o=match look x.u o with|some y=>some y|none=>uI (l++r) o:=by
    rw[Uk,Uk,uI];by_cases f:x.u=[]
    · grind [look]
    .rw[NZ r λy B=>by rw[u f y B];rfl]
   rw[k,m];cases j:look x.δ o with
   |none=>cases look x.u o<;>rfl
   |some z=>
    have s:bn D (o / 64)=true:=by rw[wR (q.new x Z) j];exact q.mem x Z
    have C:∀y∈l++x::r,look y.u o=none:=λy B=>by
     cases Q:look y.u o with
     |none=>rfl
     |some w=>have:=(q.upd y B o w Q).2;grind
    grind [NZ]
theorem wS{o:Nat}:∀(l:List fE),bn (tJ l) o=true↔∃x∈l,o∈x.k
 |[]=>by simp[tJ,bn]
 |x::r=>by
  rw[wQ,tJ,aH3,← wQ (l:=tJ r),wS r];constructor
  .rintro(h|⟨y,B,h⟩)
   .exact⟨x,aHJ,h⟩
   .exact⟨y,aHC _ B,h⟩
  .rintro⟨y,B,h⟩;rcases aHH.1 B with rfl|B
   .exact .inl h
   .exact .inr ⟨y,B,h⟩
variable {S:Nat->Bool}
theorem Cell.DR(h:∀o,S o=false):∀(c:Cell),c.kill S=c
 |.int _ _|.bool _|.str _|.nil|.sl _ _ _ _|.junk=>rfl
 |.ref o=>by grind [Cell.kill]
variable {S' S2:Nat->Bool}
theorem Cell.uZ(h:∀o,S2 o=(S o||S' o)):∀(c:Cell),(c.kill S).kill S'=c.kill S2
 |.int _ _|.bool _|.str _|.nil|.sl _ _ _ _|.junk=>rfl
 |.ref o=>by
  grind [Cell.kill]
theorem Hq(h:∀o,S2 o=(S o||S' o))(A:List Cell):(A.map (Cell.kill S)).map (Cell.kill S')=A.map (Cell.kill S2):=by
 rw[aIR]
 grind [List.map_congr_left,Cell.uZ]
theorem SV.uZ(h:∀o,S2 o=(S o||S' o)):∀(c:SV),(c.kill S).kill S'=c.kill S2
 |.one c=>by grind [SV.kill,Cell.uZ]
 |.agg cs=>by simp only[SV.kill,Hq h]
theorem AV.uZ(h:∀o,S2 o=(S o||S' o)):∀(c:AV),(c.kill S).kill S'=c.kill S2
 |.undef=>rfl
 |.sv v=>by grind [AV.kill,SV.uZ]
 |.pG vs=>by
  simp only[AV.kill];rw[aIR,List.map_congr_left λc _=>(show((SV.kill S') ∘ (SV.kill S)) c=SV.kill S2 c from SV.uZ h c)]
 |.eG o off=>by
  grind [AV.kill]
 |.qf o i off=>by
  grind [AV.kill]
 |.win o i off=>by
  grind [AV.kill]
 |.sS _ _ _ _=>rfl
 |.dH cs off=>by simp only[AV.kill,Hq h]
 |.fn g caps=>by simp only[AV.kill];rw[aIR,List.map_congr_left λc _=>(show((List.map (Cell.kill S')) ∘ (List.map (Cell.kill S))) c=List.map (Cell.kill S2) c from Hq h c)]
theorem aI.uZ(h:∀o,S2 o=(S o||S' o)):∀(c:aI),(c.kill S).kill S'=c.kill S2
 |.var cs=>by simp only[aI.kill,Hq h]
 |.arr _ _ _ _=>rfl
theorem St.uZ(h:∀o,S2 o=(S o||S' o))(st:St):(st.kill S).kill S'=st.kill S2:=by
 simp only[St.kill,St.mk.injEq,aJU];refine⟨funext λt=>AV.uZ h _,funext λo=>?_⟩;simp only[h o];cases S' o with
 |true=>cases S o<;>rfl
 |false=>
  cases S o with
  |true=>rfl
  |false=>
   cases st.ah o with
   |none=>rfl
   |some y=>grind [aI.uZ]
theorem LG(h:∀o,S o=false)(A:List Cell):A.map (Cell.kill S)=A:=by rw[show Cell.kill S=id from funext (Cell.DR h),aJu]
theorem SV.DR(h:∀o,S o=false):∀(c:SV),c.kill S=c
 |.one c=>by grind [SV.kill,Cell.DR]
 |.agg cs=>by grind [SV.kill,LG]
theorem AV.DR(h:∀o,S o=false):∀(c:AV),c.kill S=c
 |.undef=>rfl
 |.sv v=>by grind [AV.kill,SV.DR]
 |.pG vs=>by simp only[AV.kill];rw[show SV.kill S=id from funext (SV.DR h),aJu]
 |.eG o off=>ah7
 |.qf o i off=>ah7
 |.win o i off=>ah7
 |.sS _ _ _ _=>rfl
 |.dH cs off=>by grind [AV.kill,LG]
 |.fn g caps=>by simp only[AV.kill];rw[show List.map (Cell.kill S)=id from funext (LG h),aJu]
theorem aI.DR(h:∀o,S o=false):∀(c:aI),c.kill S=c
 |.var cs=>by grind [aI.kill,LG]
 |.arr _ _ _ _=>rfl
theorem St.DR(h:∀o,S o=false)(st:St):st.kill S=st:=by
 cases st with
 |mk n t o=>
  simp only[St.kill,St.mk.injEq,aJU];refine⟨funext λq=>AV.DR h _,funext λq=>?_⟩;simp only[h q];cases o q with
  |none=>rfl
  |some y=>grind [aI.DR]
theorem rU(l:List Nat)(st:St):wP l st=st.kill (bn l):=by
 cases l with
 |nil=>exact(St.DR (λ_=>rfl) st).symm
 |cons=>rfl
theorem Rel.wP(h:Rel w0 M T γ st a w)(l:List Nat):Rel w0 M T γ (wP l st) a w:=by rw[rU];exact h.kill _
theorem Cell.yj{X:V}(h:∀o,S o=true->X.ah o=none):∀(c:Cell)(v:Value),aX X c v->c.kill S=c
 |.int _ _,_,_|.bool _,_,_|.str _,_,_|.nil,_,_|.sl _ _ _ _,_,_|.junk,_,_=>rfl
 |.ref o,v,⟨⟨e,r,l,fr,ho⟩,_⟩=>by
  grind [Cell.kill]
theorem DT{X:V}{S:Nat->Bool}(h:∀o,S o=true->X.ah o=none):∀(A:List Cell)(I:List Value),ai X A I->A.map (Cell.kill S)=A
 |[],[],_=>rfl
 |c::A,v::I,H=>by rw[aHT,Cell.yj h c v H.1,DT h A I H.2]
 |[],_::_,H|_::_,[],H=>RS
theorem SV.yj{X:V}(h:∀o,S o=true->X.ah o=none):∀(c:SV)(v:Value),eP X c v->c.kill S=c
 |.one c,v,H=>by rw[SV.kill,Cell.yj h c v H]
 |.agg cs,v,⟨vs,_,H⟩=>by grind [SV.kill,DT]
theorem adF{X:V}{S:Nat->Bool}(h:∀o,S o=true->X.ah o=none):∀(A:List SV)(I:List Value),eX X A I->A.map (SV.kill S)=A
 |[],[],_=>rfl
 |c::A,v::I,H=>by rw[aHT,SV.yj h c v H.1,adF h A I H.2]
 |[],_::_,H|_::_,[],H=>RS
theorem abN{X:V}{S:Nat->Bool}(h:∀o,S o=true->X.ah o=none):∀(l:List (List Cell))(s:List Value),gB X l s->l.map (List.map (Cell.kill S))=l
 |[],[],_=>rfl
 |cs::l,u::s,⟨⟨b,_,arr,t,fz,_,_,H⟩,H2⟩=>by rw[aHT,DT h cs _ H,abN h l s H2]
 |[],_::_,H|_::_,[],H=>RS
theorem AV.yj{X:V}(h:∀o,S o=true->X.ah o=none):∀(c:AV)(v:Value),bD X c v->c.kill S=c
 |.undef,_,_=>rfl
 |.sv x,v,H=>by rw[AV.kill,SV.yj h x v H]
 |.pG xs,v,⟨vs,_,H⟩=>by grind [AV.kill,adF]
 |.eG o off,v,⟨b,cs,ho,_⟩=>by
  grind [AV.kill]
 |.qf o i off,v,⟨b,n,cap,e,r,l,fr,ho,_⟩=>by
  grind [AV.kill]
 |.win o i off,v,⟨b,n,cap,e,r,l,fr,ho,_⟩=>by
  grind [AV.kill]
 |.sS _ _ _ _,_,_=>rfl
 |.dH cs off,v,⟨b,_,arr,t,fz,_,_,H⟩=>by grind [AV.kill,DT]
 |.fn f caps,v,⟨us,_,H⟩=>by grind [AV.kill,abN]
theorem aI.yj{X:V}(h:∀o,S o=true->X.ah o=none){o:Nat}:∀(x:aI),cu X o x->x.kill S=x
 |.var cs,⟨b,ar,t,_,_,H⟩=>by grind [aI.kill,DT]
 |.arr _ _ _ _,_=>rfl
variable {H:Nat->Bool}
theorem Cell.wU(E:∀o,S o=true->S' o=true)(O:∀o,S' o=true->S o=true\/H o=true):∀(c:Cell),(c.kill S).touch H=false->c.kill S'=c.kill S
 |.int _ _,_|.bool _,_|.str _,_|.nil,_|.sl _ _ _ _,_|.junk,_=>rfl
 |.ref o,r=>by
  simp only[Cell.kill]at r ⊢;cases X:S o with
  |true=>rw[E o X]
  |false=>
   rw[X]at r;have r:H o=false:=r
   grind
theorem yt{S S' H:Nat->Bool}(E:∀o,S o=true->S' o=true)(O:∀o,S' o=true->S o=true\/H o=true):∀(A:List Cell),(A.map (Cell.kill S)).any (Cell.touch H)=false->A.map (Cell.kill S')=A.map (Cell.kill S)
 |[],_=>rfl
 |c::A,ht=>by rw[aHT,List.any_cons,aID]at ht;rw[aHT,aHT,Cell.wU E O c ht.1,yt E O A ht.2]
theorem SV.wU(E:∀o,S o=true->S' o=true)(O:∀o,S' o=true->S o=true\/H o=true):∀(c:SV),(c.kill S).touch H=false->c.kill S'=c.kill S
 |.one c,ht=>by simp only[SV.kill];rw[Cell.wU E O c ht]
 |.agg cs,ht=>by simp only[SV.kill];rw[yt E O cs ht]
theorem Yp{S S' H:Nat->Bool}(E:∀o,S o=true->S' o=true)(O:∀o,S' o=true->S o=true\/H o=true):∀(A:List SV),(A.map (SV.kill S)).any (SV.touch H)=false->A.map (SV.kill S')=A.map (SV.kill S)
 |[],_=>rfl
 |c::A,ht=>by rw[aHT,List.any_cons,aID]at ht;rw[aHT,aHT,SV.wU E O c ht.1,Yp E O A ht.2]
theorem VY{S S' H:Nat->Bool}(E:∀o,S o=true->S' o=true)(O:∀o,S' o=true->S o=true\/H o=true):∀(l:List (List Cell)),((l.map (List.map (Cell.kill S))).any λA=>A.any (Cell.touch H))=false->l.map (List.map (Cell.kill S'))=l.map (List.map (Cell.kill S))
 |[],_=>rfl
 |c::A,ht=>by rw[aHT,List.any_cons,aID]at ht;rw[aHT,aHT,yt E O c ht.1,VY E O A ht.2]
theorem AV.wU(E:∀o,S o=true->S' o=true)(O:∀o,S' o=true->S o=true\/H o=true):∀(c:AV),(c.kill S).touch H=false->c.kill S'=c.kill S
 |.undef,_=>rfl
 |.sv v,r=>by simp only[AV.kill];rw[SV.wU E O v r]
 |.pG vs,r=>by simp only[AV.kill];rw[Yp E O vs r]
 |.eG o off,r=>by
  simp only[AV.kill]at r ⊢;cases X:S o with
  |true=>rw[E o X]
  |false=>
   rw[X]at r;have r:H o=false:=r
   grind
 |.qf o i off,r=>by
  simp only[AV.kill]at r ⊢;cases X:S o with
  |true=>rw[E o X]
  |false=>
   rw[X]at r;have r:H o=false:=r
   grind
 |.win o i off,r=>by
  simp only[AV.kill]at r ⊢;cases X:S o with
  |true=>rw[E o X]
  |false=>
   rw[X]at r;have r:H o=false:=r
   grind
 |.sS _ _ _ _,_=>rfl
 |.dH cs off,r=>by simp only[AV.kill];rw[yt E O cs r]
 |.fn g caps,r=>by simp only[AV.kill];rw[VY E O caps r]
theorem aI.wU(E:∀o,S o=true->S' o=true)(O:∀o,S' o=true->S o=true\/H o=true):∀(c:aI),(c.kill S).touch H=false->c.kill S'=c.kill S
 |.var cs,ht=>by simp only[aI.kill];rw[yt E O cs ht]
 |.arr _ _ _ _,_=>rfl
theorem awL{v s:St}{lv d b:List Nat}(h:v.more s)(E:∀o,bn lv o=true->bn d o=true)(O:∀o,bn d o=true->bn lv o=true\/bn b o=true):
 ((wP lv v).akQ b).more (wP d s):=by
 have L:∀(s:St),s.akQ b={n:=s.n,tmps:=(λt=>match (s.tmps t).touch (bn b)with|true=>.undef|false=>s.tmps t),ah:=(λo=>match bn b o with|true=>none|false=>match s.ah o with|some x=>(match x.touch (bn b)with|true=>none|false=>some x)|none=>none)}:=by
  intro s;cases b with
  |cons=>rfl
  |nil=>
   have m:∀c:Cell,c.touch (bn [])=false:=λc=>by cases c<;>rfl
   have k:∀A:List Cell,A.any (Cell.touch (bn []))=false:=λA=>ny;have q:∀c:SV,c.touch (bn [])=false:=λc=>by cases c with|one c=>exact m c|agg A=>exact k A
   have u:∀c:AV,c.touch (bn [])=false:=λc=>by
    cases c with
    |sv v=>exact q v
    |pG vs=>show vs.any (SV.touch (bn []))=false;grind
    |dH A off=>exact k A
    |fn g caps=>show(caps.any λA=>A.any (Cell.touch (bn [])))=false;grind
    |_=>rfl
   have z:∀c:aI,c.touch (bn [])=false:=λc=>by cases c with|var A=>exact k A|arr _ _ _ _=>rfl
   cases s with
   |mk n t o=>
    simp only[St.akQ,St.mk.injEq,aJU]
    grind [bn]
 rw[L,rU,rU];refine⟨λt=>?_,λo y B=>?_⟩
 .dsimp only[St.kill];cases r:((v.tmps t).kill (bn lv)).touch (bn b)with
  |true=>exact .inl rfl
  |false=>
   rcases h.tmps t with e|e
   .rw[e];exact .inl rfl
   grind [AV.wU]
 .dsimp only[St.kill]at B ⊢;split at B
  .cases B
  .next hh=>
   split at B
   .next x hx=>
    split at hx
    .cases hx
    .next hl=>
     cases j:v.ah o with
     |none=>grind
     |some y0=>
      split at B
      .cases B
      .next r=>
       have f:bn d o=false:=by
        grind
       rw[f,h.ah o _ j]
       grind [aI.wU]
   .cases B
variable {path:List fE}{L:Nat->Bool}
theorem awM{L':Nat->Bool}(t:i<path.length)(s:L i=false)(n:L' i=true)(h:∀j,j≠i->L' j=L j)
 (q:Fits D U (pick (path.set i x) 0 L')) (b:∀y∈pick path 0 L,y.d≠x.d) (z:x.u≠[]->∀j y,i<j->L j=true->path[j]? =some y->y.u=[]):
 (((pI base (pick path 0 L)).adds x.u).adds x.δ).set x.d x.v=pI base (pick (path.set i x) 0 L')/\(∀o,bn (tJ (pick (path.set i x) 0 L')) o=(bn (tJ (pick path 0 L)) o||bn x.k o)):=by
 have d:path=path.take i++path[i]::path.drop (i+1):=XH;have f:pick path 0 L=pick (path.take i) 0 L++pick (path.drop (i+1)) (i+1) L:=by
  grind [Xi,pick]
 have m:∀(l:List fE)(j:Nat),(∀k,k<l.length->j+k≠i)->pick l j L'=pick l j L:=by
  intro l
  induction l with
  |nil=>intros;rfl
  |cons y l ih=>intro j e;rw[pick,pick,h j (by simpa using e 0 vk),ih (j+1) λk u=>by have:=e (k+1) (by simpa using u);omega]
 have g:pick (path.set i x) 0 L'=pick (path.take i) 0 L++x::pick (path.drop (i+1)) (i+1) L:=by
  grind [Xi,pick]
 rw[g]at q;rw[f]at b;rw[f,g];refine⟨?_,λo=>?_⟩
 case refine_2=>
  grind [wS,wQ]
 refine auK q b λr y B=>?_
 grind [rQ]
theorem awN{L':Nat->Bool}(k:i<path.length)(g:L i=false)(b:L' i=true)(h:∀j,j≠i->L' j=L j)
 (q:Fits D U (pick (path.set i x) 0 L')) (d:∀y∈pick path 0 L,y.d≠x.d) (m:x.u≠[]->∀j y,i<j->L j=true->path[j]? =some y->y.u=[])
 (K:x.v.kill (bn (tJ (pick (path.set i x) 0 L')))=x.v)
 (n:∀o y,(look x.δ o=some y\/look x.u o=some y)->bn (tJ (pick (path.set i x) 0 L')) o=false/\y.kill (bn (tJ (pick (path.set i x) 0 L')))=y):
 (((wP x.k (after base path L)).adds x.u).adds x.δ).set x.d x.v=after base (path.set i x) L':=by
 obtain⟨e,r⟩:=awM (base:=base) k g b h q d m;have f:wP x.k (after base path L)=(pI base (pick path 0 L)).kill (bn (tJ (pick (path.set i x) 0 L'))):=by
  grind [after,rU,St.uZ]
 rw[f];unfold after;rw[rU,← e];have t:∀s:St,((s.adds x.u).adds x.δ)={s with ah:=((s.adds x.u).adds x.δ).ah}:=λs=>by grind [afy]
 simp only[St.set,St.kill,St.mk.injEq,aJU]
 grind [xw]
theorem awO(b:∀i,L i=false):after base path L=base:=by unfold after;rw[ap0 path 0 L λi _=>b i];rfl
theorem azx(h:Rel w0 M T γ st a w)(D:List Nat):Rel w0 M T γ (dn D st) a w:=h.kill _
theorem ap4{o:Nat}(h:bn D (o / 64)=true):(dn D st).ah o=none:=by simp[dn,St.kill,h]
theorem awP(q:Fits R.D R.U (pick path 0 L))(u:∀j,(R.ms.getD i 0).testBit j=true->L j=true)
 (n:∀k x,path[k]? =some x->idxOf R.D x.d 0=some k) (N:L i=false) (f:∀k,L k=true->(R.ms.getD k 0).testBit i=false)
 (m:NV R.ms R.E i=true->∀j x,path[j]? =some x->x.u≠[]->L j=true->(R.ms.getD i 0).testBit j=true):
 ((match NV R.ms R.E i with
   |true=>pI (dn R.D st) (pick path 0 (R.ms.getD i 0).testBit)
   |false=>(pI (dn R.D st) (pick path 0 (R.ms.getD i 0).testBit)).hide R.U).veil R i).more (pI (dn R.D st) (pick path 0 L)):=by
 have b:∀x∈pick path 0 (R.ms.getD i 0).testBit,x∈pick path 0 L:=λx Z=>by
  grind [rQ]
 have r:∀t,aiw R i t=false->CO (pick path 0 L) t ((dn R.D st).tmps t)=CO (pick path 0 (R.ms.getD i 0).testBit) t ((dn R.D st).tmps t):=by
  grind [adE,akS,rQ,aiw,Nat.eq_of_beq_eq_true]
 have K:∀o y,lookO (pick path 0 (R.ms.getD i 0).testBit) o ((dn R.D st).ah o)=some y->lookO (pick path 0 L) o ((dn R.D st).ah o)=some y:=by
  intro o y B;by_cases g:∃x∈pick path 0 (R.ms.getD i 0).testBit,∃z,look x.δ o=some z
  .obtain⟨x,Z,z,hz⟩:=g;have F:∀w∈pick path 0 L,∀C,look w.δ o=some C->x=w:=λw A C h=>
    q.one x (b x Z) w A ((wR (q.new x (b x Z)) hz).symm.trans (wR (q.new w A) h))
   grind [ap3]
  .have hno:∀x∈pick path 0 (R.ms.getD i 0).testBit,look x.δ o=none:=λx Z=>by
    cases Q:look x.δ o with
    |none=>rfl
    |some z=>grind
   rw[Sz _ hno]at B;rw[Sz,B];intro x Z;cases Q:look x.δ o with
   |none=>rfl
   |some z=>rw[ap4 (by rw[wR (q.new x Z) Q];exact q.mem x Z)]at B;cases B
 have d:∀o y,uI (pick path 0 (R.ms.getD i 0).testBit) o=uI (pick path 0 L) o->(pI (dn R.D st) (pick path 0 (R.ms.getD i 0).testBit)).ah o=some y->(pI (dn R.D st) (pick path 0 L)).ah o=some y:=by
  grind [pI]
 have e:∀s:St,(∀t,s.tmps t=CO (pick path 0 (R.ms.getD i 0).testBit) t ((dn R.D st).tmps t))->(∀o y,s.ah o=some y->(pI (dn R.D st) (pick path 0 L)).ah o=some y)->(s.veil R i).more (pI (dn R.D st) (pick path 0 L)):=by
  intro s E O;refine⟨λt=>?_,O⟩;show(match aiw R i t with|true=>AV.undef|false=>s.tmps t)=.undef\/_=(match aiw R i t with|true=>AV.undef|false=>s.tmps t);cases I:aiw R i t with
  |true=>exact .inl rfl
  |false=>right;rw[E t];exact r t I
 split
 .next hc=>
  refine e _ (λt=>rfl) λo y B=>d o y ?_ B
  grind [aho]
 .next hc=>
  refine e _ (λt=>rfl) λo y B=>?_;unfold St.hide at B;dsimp only at B;split at B
  .cases B
  .next hU=>
   have J:∀x∈pick path 0 L,look x.u o=none:=λx Z=>by
    cases Q:look x.u o with
    |none=>rfl
    |some z=>have:=(q.upd x Z o z Q).1;grind
   grind [NZ]
theorem ax4(st:St)(U:List Nat)(S:Nat->Bool):(st.kill S).hide U=(st.hide U).kill S:=by
 simp only[St.hide,St.kill,St.mk.injEq,aJU]
 grind
theorem ax5(st:St)(R:Reg)(i:Nat)(S:Nat->Bool):(st.kill S).veil R i=(st.veil R i).kill S:=by
 simp only[St.veil,St.kill,St.mk.injEq,aJU,and_true]
 funext t
 cases aiw R i t<;>rfl
theorem asH{d:List Nat}{i e q:Nat}(b:e≠i)(E:(d.getD i 0).testBit e=false)(O:(d.getD e 0).testBit i=false):∀(A:List (Nat×Nat)),Pq A e q=true->bn (an7 d i A) q=true
 |[],h=>zH
 |(e',q')::r,h=>by
  rw[Pq]at h;rw[an7];cases J:Nat.beq e' e&&Nat.beq q' q with
  |true=>
   rw[aHy]at J;rw[aHA J.1,aHA J.2,E,O,Qv b];simp[bn,aII]
  |false=>
   rw[J]at h;have f:=asH b E O r h;split
   .exact f
   .rw[bn,f];split<;>rfl
theorem auL(m:Fits R.D R.U (pick path 0 L))(g:∀j,(R.ms.getD i 0).testBit j=true->L j=true)
 (f:∀k x,path[k]? =some x->idxOf R.D x.d 0=some k) (n:L i=false) (b:∀k,L k=true->(R.ms.getD k 0).testBit i=false)
 (d:NV R.ms R.E i=true->∀j x,path[j]? =some x->x.u≠[]->L j=true->(R.ms.getD i 0).testBit j=true)
 (u:∀e x,path[e]? =some x->L e=true->∀q∈x.k,Pq R.A e q=true):
 (viewAt R (dn R.D st) path i).more (after (dn R.D st) path L):=by
 have h:=awP (st:=st) m g f n b d;have e:viewAt R (dn R.D st) path i=(wP (tJ (pick path 0 (R.ms.getD i 0).testBit)) ((match NV R.ms R.E i with
  |true=>pI (dn R.D st) (pick path 0 (R.ms.getD i 0).testBit)
  |false=>(pI (dn R.D st) (pick path 0 (R.ms.getD i 0).testBit)).hide R.U).veil R i)).akQ (an7 R.ms i R.A):=by
  grind [viewAt,after,rU,ax4,ax5]
 rw[e];refine awL h (λo F=>?_) λo F=>?_
 · grind [wS,rQ]
 grind [wS,rQ,asH]
theorem ap5:∀(l:List Nat)(j i d:Nat),nodup l=true->l[i]? =some d->idxOf l d j=some (j+i)
 |[],_,_,_,_,h=>XD
 |x::r,j,0,d,_,h=>by
  grind [idxOf,Nat.beq_refl]
 |x::r,j,i+1,d,hn,h=>by
  rw[nodup,aHy]at hn;have b:Nat.beq d x=false:=by
   grind [Nat.eq_of_beq_eq_true,wQ]
  rw[idxOf,b,show j+(i+1)=j+1+i from lu];exact ap5 r (j+1) i d hn.2 y7
end Go.Fw
namespace Go.Fw
open Go
variable {P:Program} {w0:World} {M:Nat->Prop} {T:Ext} {γ γ':Nat->Value} {st s:St} {a:Act} {w w':World} {Θ:jY} {Γ:kY}
variable {S:Nat->Bool}
theorem Cell.DU(h:∀o,S o=false):∀(c:Cell),c.kill S=c
 |.ref o=>by grind [Cell.kill]
 |.int _ _|.bool _|.str _|.nil|.sl _ _ _ _|.junk=>rfl
theorem LH(h:∀o,S o=false)(A:List Cell):A.map (Cell.kill S)=A:=by rw[show Cell.kill S=id from funext (Cell.DU h),aJu]
theorem SV.DU(h:∀o,S o=false):∀(c:SV),c.kill S=c
 |.one c=>by grind [SV.kill,Cell.DU]
 |.agg cs=>by grind [SV.kill,LH]
theorem AV.DU(h:∀o,S o=false):∀(c:AV),c.kill S=c
 |.undef=>rfl
 |.sv v=>by grind [AV.kill,SV.DU]
 |.pG vs=>by simp only[AV.kill];rw[show SV.kill S=id from funext (SV.DU h),aJu]
 |.eG o off=>ah7
 |.qf o i off=>ah7
 |.win o i off=>ah7
 |.sS _ _ _ _=>rfl
 |.dH cs off=>by grind [AV.kill,LH]
 |.fn f caps=>by simp only[AV.kill];rw[show List.map (Cell.kill S)=id from funext (LH h),aJu]
theorem aI.DU(h:∀o,S o=false):∀(c:aI),c.kill S=c
 |.var cs=>by grind [aI.kill,LH]
 |.arr _ _ _ _=>rfl
theorem St.DU(h:∀o,S o=false)(st:St):st.kill S=st:=by
 unfold St.kill;rw[show(λt=>(st.tmps t).kill S)=st.tmps from funext λt=>AV.DU h _];have:(λo=>match S o with|true=>none|false=>(st.ah o).map (aI.kill S))=st.ah:=by
  funext o
  rw[h o,show aI.kill S=id from funext (aI.DU h)];cases st.ah o<;>rfl
 simp_all
theorem awQ:∀(c:Cell),c.refs=[]->c.view s=c.view st
 |.int _ _,_|.bool _,_|.str _,_|.nil,_|.sl _ _ _ _,_|.junk,_=>rfl
theorem ahr:∀(A:List Cell),A.flatMap Cell.refs=[]->A.map (Cell.view s)=A.map (Cell.view st)
 |[],_=>rfl
 |c::A,h=>by rw[aIr,aIc]at h;rw[aHT,aHT,awQ c h.1,ahr A h.2]
variable {m:Mode}{x:AV}{r:Arg×Option Nat}
theorem adG(h:st.more s)(W:vK st m x=some r):vK s m x=some r:=by
 unfold vK at W ⊢;cases m with
 |val=>
  grind [FZ]
 |own=>
  dsimp only at W ⊢;split at W
  .split at W
   .next ho=>rw[h.ah _ _ ho];exact W
   .cases W
  .cases W
 |ptr=>
  dsimp only at W ⊢;split at W
  .split at W
   .next hb ho=>
    split at W
    .next hn=>rw[hb,h.ah _ _ ho];grind [ahr]
    .cases W
   .cases W
  .cases W
theorem abO(W:vK st m x=some r):x≠ .undef:=by rintro rfl;cases m<;>simp[vK,rJ]at W
theorem N7(h:st.more s):∀(b:List (Option Nat))(e:List Eff)(d:List (Nat×aI)),qR st b e=some d->qR s b e=some d
 |[],_,_,hb=>by grind [qR]
 |none::b,e,d,hb=>by exact N7 h b _ d hb
 |some o::b,e,d,hb=>by
  unfold qR at hb ⊢;split at hb
  .next h1 h2=>rw[h1,N7 h _ _ _ h2];exact hb
  .next h1 h2 h3=>rw[h1,h.ah _ _ h2,N7 h _ _ _ h3];omega
  .next h1 h2 h3=>rw[h1,h.ah _ _ h2,N7 h _ _ _ h3];omega
  .cases hb
theorem Xj:∀(b:List (Option Nat))(d:List Eff),adD b d=true->∀p,jZ b d p=false
 |[],_,_,_=>rfl
 |none::b,d,h,p=>by exact Xj b _ h p
 |some o::b,d,h,p=>by
  unfold adD at h;unfold jZ;split at h
  .next cs he=>rw[he];exact Xj b _ h p
  .cases h
theorem aqX(h:st.more s)(W:yh st m x=some r):yh s m x=some r:=by
 cases m with
 |val=>
  grind [yh,FZ]
 |own=>exact adG h (m:=.own) W
 |ptr=>exact adG h (m:=.ptr) W
theorem an8(W:yh st m x=some r):x≠ .undef:=by
 cases m with
 |val=>rintro rfl;simp[yh,rJ]at W
 |own=>exact abO (m:=.own) W
 |ptr=>exact abO (m:=.ptr) W
theorem ahs(h:st.more s):∀(b:List Mode)(z:List AV)(r:List Arg×List (Option Nat)),DN st b z=some r->DN s b z=some r
 |_,[],r,hr=>by grind [DN]
 |b,x::z,r,hr=>by
  unfold DN at hr ⊢;split at hr
  .next h1 h2=>rw[aqX h h1,ahs h _ _ _ h2];exact hr
  .cases hr
theorem adH:∀(b:List Mode)(z:List AV)(r:List Arg×List (Option Nat)),DN st b z=some r->∀x∈z,x≠ .undef
 |_,[],_,_,x,hx=>by cases hx
 |b,x::z,r,hr,y,B=>by
  unfold DN at hr;split at hr
  .next h1 h2=>
   rcases aHH.1 B with rfl|B
   .exact an8 h1
   .exact adH _ _ _ h2 y B
  .cases hr
theorem awR{z:List AV}(h:ND z=true):zN z=[]:=by
 grind [ND]
theorem FH:∀(e:List Mode)(z:List AV)(r:List Arg×List (Option Nat)),zN (KA e z)=[]->DN st e z=some r->hands st e z=some r
 |_,[],r,_,hr=>by grind [DN,hands]
 |e,x::z,r,hn,hr=>by
  unfold DN at hr;split at hr
  .next a o as os E h2=>
   have f:hands st e.tail z=some (as,os)/\vK st (e.headD .val) x=some (a,o):=by
    cases e with
    |nil=>
     have d:x.refs++zN z=[]:=hn;rw[aIc]at d;refine⟨FH [] z _ (by cases z<;>exact d.2) h2,?_⟩
     grind [yh,vK]
    |cons m e=>
     cases m with
     |val=>
      have d:x.refs++zN (KA e z)=[]:=hn;rw[aIc]at d;refine⟨FH e z _ d.2 h2,?_⟩;have E:yh st .val x=some (a,o):=E;simp only[yh]at E;simp only[vK,d.1];split at E
      .next b hb=>rw[hb];exact E
      .cases E
     |own=>exact⟨FH e z _ hn h2,E⟩
     |ptr=>exact⟨FH e z _ hn h2,E⟩
   grind [hands]
  .cases hr
theorem aqY{a:Arg}{o:Option Nat}(h:yh st m x=some (a,o)):ML false st x a o:=by
 have d:ML true st x a o->ML false st x a o:=λh=>h.imp (λ⟨E,_,U⟩=>⟨E,(λe=>Q7),U⟩) id;cases m with
 |val=>
  simp only[yh]at h;split at h
  .next b hb=>cases h;exact .inl ⟨rfl,(λe=>Q7),hb⟩
  .cases h
 |own=>exact d (Ua (m:=.own) h)
 |ptr=>exact d (Ua (m:=.ptr) h)
theorem aht:∀(e:List Mode)(z:List AV)(b:List Arg)(d:List (Option Nat)),DN st e z=some (b,d)->uX false st z b d
 |_,[],b,d,h=>by cases h;trivial
 |e,x::z,b,d,h=>by
  unfold DN at h;split at h
  .next a o as' os' h1 h2=>cases h;exact⟨aqY h1,aht e.tail z as' os' h2⟩
  .cases h
variable {Q:Exit->Act->World->Prop}
theorem asI{G:lT}(hE:vM P G Θ Γ w0 M)(h:Rel w0 M T γ s a w)(hm:st.more s)(o:Oper){D U:List Nat}{d:Nat}{p:Prop}{b:Xc}{os:List (Option Nat)×Bool}
 (L:Yo Γ st o.op=some (p,b,os)) (C:p) (hd:∀q,q / 64=d->s.ah q=none) (Z:∀t,b.R t->∃r,NY D U d st os (b.out t) (b.aV t)=some r) {next:Act->World->Prop} 
 (H:∀t v B y u γ' w',b.R t->NY D U d st os (b.out t) (b.aV t)=some (v,B,y)->Rel w0 M T γ' ((s.adds B).adds y) a w'->bD (ak w0 T γ' ((s.adds B).adds y) w') v u->next (a.put o.dst u) w'):o.wp P a w next Q:=by
 unfold Yo at L;split at L
 case h_2=>cases L
 next f args sG hop=>
 split at L
 case h_2=>cases L
 next R con n=>
 split at L
 case h_2=>cases L
 next I j X=>
 split at L
 case h_2=>cases L
 next J=>
 split at L
 case h_2=>cases L
 next q ρ' i=>
 cases L;have Y:handed s args.toList []=handed st args.toList []:=Xg hm [] _ (adH _ _ _ X);have E:=ahs hm _ _ _ X;rw[← Y]at E J Z H;obtain⟨N,F⟩:=hE.arB f R con n;have K:bD (ak w0 T γ s w) (.fn f []) (a.eval (.func f)):=jK h (.func f);obtain⟨us,hvx,hkx⟩:=K;unfold Oper.wp;rw[VP hop hvx F,aJM];have hxs:qJ (ak w0 T γ s w) (handed s args.toList []) (args.map a.eval++us).toList:=by
  grind [Array.toList_map,NM]
 have hk:(d*64+1)%64=1:=lu;have O:∀t,b.R t->∃B,DF j=true/\Qu (b.aV t) ((b.out t).take (d*64+1)).2=true/\qR s j (b.aV t)=some B/\s.kill (jZ j (b.aV t))=s/\kZ s ((b.out t).take (d*64+1)).2=true/\
  (!(!(ND (KA R (handed s args.toList []))))||((b.out t).made&&Ub (b.aV t)))=true/\
  NY D U d st (j,!(ND (KA R (handed s args.toList [])))) (b.out t) (b.aV t)=some (((b.out t).take (d*64+1)).1,B,((b.out t).take (d*64+1)).2):=by
  intro t ht;obtain⟨r,W⟩:=Z t ht;have hr0:=W;unfold NY at W;split at W
  .next B k hb=>
   rw[aHy,aHy,aHy,aHy]at k;split at W
   .cases W;refine⟨B,k.1,k.2.1,N7 hm _ _ _ hb,St.DU (Xj _ _ k.2.2.1) s,?_,k.2.2.2.2,hr0⟩;refine aHS.2 λz hz=>?_;rw[hd z.1 (aHA (aHS.1 k.2.2.2.1 z hz))];rfl
   .cases W
  .cases W
 have A:∀t,b.R t->∃y,qR s j (b.aV t)=some y/\kZ (s.kill (jZ j (b.aV t))) ((b.out t).take (d*64+1)).2=true/\Qu (b.aV t) ((b.out t).take (d*64+1)).2=true:=λt ht=>by
  grind
 obtain⟨t0,ht0⟩:=(N I _ b i C).1;obtain⟨_,k,_⟩:=O t0 ht0;have aCp:Calls P f (args.map a.eval++us) w λe w'=>∃t y,b.R t/\qR s j (b.aV t)=some y/\∃v γ',e=.returned v/\
  Rel w0 M T γ' (((s.kill (jZ j (b.aV t))).adds y).adds ((b.out t).take (d*64+1)).2) a w'/\bD (ak w0 T γ' (((s.kill (jZ j (b.aV t))).adds y).adds ((b.out t).take (d*64+1)).2) w') ((b.out t).take (d*64+1)).1 v:=by
  cases hnr:ND (KA R (handed s args.toList []))with
  |true=>exact h.avf hE hxs (ZB R _ I j (FH R _ _ (awR hnr) E)) k hk N i C A
  |false=>
   rw[hnr]at J;refine h.ash hE hxs (aht R _ I j E) k hk N i C (λq e r l g=>?_) (λt ht=>?_) A
   .unfold gQ at g;split at g
    .next e' r' l' hb=>have:=aHS.1 J _ (aH5 hb);cases this
    .split at g<;>cases g
    .cases g
   grind
 refine aCp.mono ?_
 grind
variable {ops:Array Oper}{i:Nat}
theorem Ik{listed:Array Bool}:i∈Region.ready .any ops listed↔
 ∃o,ops[i]? =some o/\listed.getD i true=false/\∀e∈o.after,Region.binds .any e=true->listed.getD e.on false=true:=by
 grind [mem_ready]
theorem VZ{listed:Array Bool}(D:i<listed.size):listed.getD i true=listed.getD i false:=by
 grind
theorem aBv(d:Nat):(d*64+1) / 64=d:=lu
theorem ap6{o:Op}(h:DL o=true):EW Γ o=true:=by
 unfold DL at h;split at h
 .rfl
 .cases h
theorem Rel.aCq(h:Rel w0 M T γ st a w)(d:Nat)(b:st.n<=d)(v:AV)(K:v=.pG []):Rel w0 M T γ (st.set d v) (a.put none undef) w:=by
 refine⟨h.mT,h.defers,h.size,h.os,h.tape,h.output,h.grow,h.kept,λt=>?_,h.ah,h.lt,h.sep,h.pin⟩;show bD _ (match Nat.beq t d with|true=>v|false=>st.tmps t) (a.tmps.getD t undef);cases J:Nat.beq t d with
 |false=>exact h.tmps t
 |true=>have e:=aHA J;have X:=h.size;have:a.tmps.getD t undef=undef:=ny;rw[this,K];exact⟨#[],rfl,trivial⟩
theorem aoa{G:lT}(j:vM P G Θ Γ w0 M){s:St}(h:Rel w0 M T γ s a w)(l:st.more s)(o:Oper){f:List (Nat×aI)}(L:Ui Θ st o.op=some f){next:Act->World->Prop}
 (H:∀γ' w',Rel w0 M T γ' ((s.adds f).adds []) a w'->next (a.put o.dst undef) w'):o.wp P a w next Q:=by
 unfold Ui at L;split at L
 case h_2=>cases L
 next t p x k=>
 split at L
 case h_2=>cases L
 next v u q e K n C=>
 split at L
 case h_2=>cases L
 next A Y F=>
 split at L
 case h_2=>cases L
 next g=>
 cases L;have X:store s (.eG q e) v=some (True,s.add q (.var (splice A e v.cells))):=by unfold store;simp only[l.ah q _ F,g]
 have b:=jK h p;rw[dm l C vk]at b;have d:=jK h x;rw[dm l K vk]at d;obtain⟨w',E,O⟩:=apM j.types h n X trivial b d (aHA Y);exact Oper.wp_skip (w':=w') ah0 (H γ w' O)
theorem Cell.oG(st:St):∀(c:Cell),c.kill S=c->c.freeze st S=c
 |.ref o,h=>by
  grind [Cell.kill,Cell.freeze]
 |.int _ _,_|.bool _,_|.str _,_|.nil,_|.sl _ _ _ _,_|.junk,_=>rfl
theorem rV{S:Nat->Bool}(st:St):∀(A:List Cell),A.map (Cell.kill S)=A->A.map (Cell.freeze st S)=A
 |[],_=>rfl
 |c::A,h=>by rw[aHT,List.cons.injEq]at h;rw[aHT,Cell.oG st c h.1,rV st A h.2]
theorem SV.oG(st:St):∀(c:SV),c.kill S=c->c.freeze st S=c
 |.one c,h=>by
  grind [SV.kill,SV.freeze,Cell.oG]
 |.agg cs,h=>by
  grind [SV.kill,SV.freeze,rV]
theorem QD{S:Nat->Bool}(st:St):∀(A:List SV),A.map (SV.kill S)=A->A.map (SV.freeze st S)=A
 |[],_=>rfl
 |c::A,h=>by rw[aHT,List.cons.injEq]at h;rw[aHT,SV.oG st c h.1,QD st A h.2]
theorem OY{S:Nat->Bool}(st:St):∀(l:List (List Cell)),l.map (List.map (Cell.kill S))=l->l.map (List.map (Cell.freeze st S))=l
 |[],_=>rfl
 |c::cs,h=>by rw[aHT,List.cons.injEq]at h;rw[aHT,rV st c h.1,OY st cs h.2]
theorem AV.oG(st:St):∀(c:AV),c.kill S=c->c.freeze st S=c
 |.undef,_=>rfl
 |.sv v,h=>by
  grind [AV.kill,AV.freeze,SV.oG]
 |.pG vs,h=>by
  grind [AV.kill,AV.freeze,QD]
 |.eG o off,h=>by
  grind [AV.kill,AV.freeze]
 |.qf o i off,h=>by
  grind [AV.kill,AV.freeze]
 |.win o i off,h=>by
  grind [AV.kill,AV.freeze]
 |.sS _ _ _ _,_=>rfl
 |.dH cs off,h=>by
  grind [AV.kill,AV.freeze,rV]
 |.fn f caps,h=>by
  grind [AV.kill,AV.freeze,OY]
theorem aI.oG(st:St):∀(c:aI),c.kill S=c->c.freeze st S=c
 |.var cs,h=>by
  grind [aI.kill,aI.freeze,rV]
 |.arr _ _ _ _,_=>rfl
theorem azy{s:St}{γ0:Nat->Value}{k:World}{g:Act}(d:Rel w0 M T γ0 s g k){q:Nat}(y:s.ah q=none){e:TypeId}{r:au}{l:List r.den}{fr:Bool}{u:Value}
 (h:Rel w0 M T γ (s.adds [(q,.arr e r l fr)]) a w) (K:bD (ak w0 T γ (s.adds [(q,.arr e r l fr)]) w) (.sv (.one (.ref q))) u):
 Rel w0 M T γ s a w/\bD (ak w0 T γ s w) (.sv (.one (.sl e r l fr))) u:=by
 have f:∀o,Nat.beq q o=true->s.ah o=none:=λo F=>XH;have n:(s.adds [(q,.arr e r l fr)]).ah q=some (.arr e r l fr):=by
  show(match Nat.beq q q with|true=>some _|false=>_)=_
  simp_all
 have b:∀o,Nat.beq q o=false->(s.adds [(q,.arr e r l fr)]).ah o=s.ah o:=λo F=>by
  show(match Nat.beq o q with|true=>some _|false=>_)=_
  grind [Nat.eq_of_beq_eq_true]
 have X:(s.adds [(q,.arr e r l fr)]).freeze (Nat.beq q)=s:=by
  have j:((s.adds [(q,.arr e r l fr)]).freeze (Nat.beq q)).tmps=s.tmps:=by
   funext t
   exact AV.oG _ _ (AV.yj f _ _ (d.tmps t))
  have F:((s.adds [(q,.arr e r l fr)]).freeze (Nat.beq q)).ah=s.ah:=by
   funext o
   simp only[St.freeze];cases J:Nat.beq q o with
   |true=>grind
   |false=>
    simp only[b o J];cases Z:s.ah o with
    |none=>rfl
    |some x=>simp only[aJ9,aI.oG _ x (aI.yj f x (d.ah o x Z))]
  show(⟨s.n,((s.adds [(q,.arr e r l fr)]).freeze (Nat.beq q)).tmps,((s.adds [(q,.arr e r l fr)]).freeze (Nat.beq q)).ah⟩:St)=⟨s.n,s.tmps,s.ah⟩;rw[j,F]
 have E:=h.freeze (S:=Nat.beq q);have O:=bD.freeze (S:=Nat.beq q) h _ _ K
 grind [AV.freeze,SV.freeze,Cell.freeze]
structure Way(R:Reg)(ops:Array Oper)(t0:Nat)(path:List fE):Prop where
 len:path.length=t0
 dst:∀(i:Nat)(o:Oper)(x:fE),ops[i]? =some o->path[i]? =some x->yg R.n i o=some x.d
 azz:∀x∈path,bn R.D x.d=true
 apart:∀(i j:Nat)(x y:fE),path[i]? =some x->path[j]? =some y->x.d=y.d->i=j
 idx:∀(i:Nat)(x:fE),path[i]? =some x->idxOf R.D x.d 0=some i
variable {R:Reg}{path:List fE}
theorem vN.fit{base:St}{o:Oper}{x:fE}(h:vN Θ Γ R base path i o x):
 Ju x.d x.δ=true/\(∀q y,look x.u q=some y->bn R.U q=true/\bn R.D (q / 64)=false)/\(x.u≠[]->EW Γ o.op=true)/\∀q∈x.k,Pq R.A i q=true/\bn R.D (q / 64)=true:=by
 obtain⟨_,_,U⟩:=h;rcases U with⟨_,⟨_,_,p,v,j,_,_,H,Z⟩|⟨_,_,p,q,y,_,_,⟨E,O,U⟩,Z⟩|⟨g,_,k,_,N,Z⟩|⟨⟨g,_⟩,u,p,C,A,t,_,_,_,_,b⟩⟩|⟨_,Z⟩
 .obtain⟨l1,l2,l3,l4⟩:=sH R.F ⟨x.d,v,[],j,[]⟩;rw[← Z]at l2 l3 l4;exact⟨aHS.2 λy B=>aHS.1 H y (l4 y B),(λq y B=>by rw[l2]at B;cases B),(λd=>(d l2).elim),λq e=>ny⟩
 .obtain⟨l1,l2,l3,l4⟩:=sH R.F ⟨x.d,.sv (.one (.ref (x.d*64+1))),[],[(x.d*64+1,y)],[q]⟩;rw[← Z]at l2 l3 l4;refine⟨aHS.2 λz n=>?_,(λq y B=>by rw[l2]at B;cases B),(λd=>(d l2).elim),λr W=>?_⟩
  .have:z=(x.d*64+1,y):=ny;rw[this];rw[show(x.d*64+1) / 64=x.d from lu,aII]
  grind
 .rw[Z];refine⟨rfl,λq y B=>?_,(λ_=>g),λq e=>Q7⟩;have:=aHS.1 N _ (Bo _ _ _ B)
  grind
 .unfold NY at b;split at b
  .next k hnd hb=>
   split at b
   .next hall=>
    simp only[Option.some.injEq,Prod.mk.injEq]at b;obtain⟨_,f,l⟩:=b;refine⟨ny,λq y B=>?_,(λ_=>g),λq e=>ny⟩;rw[← f]at B;have:=aHS.1 hall _ (Bo _ _ _ B)
    grind
   .cases b
  .cases b
 .rw[Z];exact⟨rfl,(λq y B=>by cases B),(λd=>(d rfl).elim),λq e=>Q7⟩
theorem akU:∀(l:List Oper)(i j:Nat)(o:Oper),l[j]? =some o->EW Γ o.op=true->i+j∈Yn Γ i l
 |[],_,_,_,h,_=>XD
 |x::r,i,0,o,h,he=>by
  grind [Yn]
 |x::r,i,j+1,o,h,he=>by
  have:=akU r (i+1) j o y7 he
  grind [Yn]
variable {L:Nat->Bool}
theorem Way.fits{t0:Nat}{base:St}(W:Way R ops t0 path)(f:t0<=ops.size)
 (d:∀j o x,ops[j]? =some o->path[j]? =some x->L j=true->vN Θ Γ R base path j o x):Fits R.D R.U (pick path 0 L):=by
 have b:∀x∈pick path 0 L,∃j o,L j=true/\path[j]? =some x/\ops[j]? =some o:=λx Z=>by obtain⟨j,E,O⟩:=(rQ _ _).1 Z;rw[aIn]at E;obtain⟨h,_⟩:=aHN.1 O;have Y:=W.len;exact⟨j,ops[j]' lu,E,O,vk⟩
 refine⟨λx Z y B e=>?_,λx Z=>?_,λx Z=>?_,λx Z q z g=>?_⟩
 .obtain⟨j,_,_,O,_⟩:=b x Z;obtain⟨k,_,_,U,_⟩:=b y B;have:=W.apart j k x y O U e
  grind
 .obtain⟨j,_,_,O,_⟩:=b x Z;exact W.azz x (aH5 O)
 .obtain⟨j,o,E,O,U⟩:=b x Z;exact(d j o x U O E).fit.1
 .obtain⟨j,o,E,O,U⟩:=b x Z;exact(d j o x U O E).fit.2.1 q z g
theorem Way.set{t0:Nat}{x y:fE}(W:Way R ops t0 path)(B:path[i]? =some y)(n:x.d=y.d):Way R ops t0 (path.set i x):=by
 have b:∀(j:Nat)(z:fE),(path.set i x)[j]? =some z->∃d,path[j]? =some d/\z.d=d.d:=λj z f=>by
  grind
 refine⟨by simpa using W.len,λj o z F f=>?_,λz f=>?_,λj k u v g K e=>?_,λj z f=>?_⟩
 .obtain⟨d,E,O⟩:=b j z f;rw[W.dst j o d F E,O]
 .obtain⟨j,hj⟩:=aJq f;obtain⟨d,E,O⟩:=b j z hj;rw[O];exact W.azz d (aH5 E)
 .obtain⟨u',E,O⟩:=b j u g;obtain⟨h,U,l⟩:=b k v K;exact W.apart j k u' h E U lu
 .obtain⟨d,E,O⟩:=b j z f;rw[O];exact W.idx j d E
theorem azA{G:lT}(hE:vM P G Θ Γ w0 M){t0:Nat}{L':Nat->Bool}{o:Oper}
 (W:Way R ops t0 path) (hle:t0<=ops.size) (hit:i<t0)
 (hRn:R.n=st.n) (hDn:∀i o d,ops[i]? =some o->i<t0->o.dst=some d->d<st.n) (hgd:∀i o g b,ops[i]? =some o->i<t0->o.guard=some (g,b)->∃og d,ops[g]? =some og/\og.dst=some d) (hcmp:∀e∈R.E,NV R.ms R.E e=true) (hEi:∀j o',ops[j]? =some o'->j<t0->EW Γ o'.op=true->j∈R.E)
 (hA:∀e q,Pq R.A e q=true->∃j,idxOf R.D (q / 64) 0=some j/\(R.ms.getD e 0).testBit j=true)
 (F:ops[i]? =some o) (hen:Enabled Θ Γ R (dn R.D st) path i o)
 (hok:∀j o x,ops[j]? =some o->path[j]? =some x->L j=true->vN Θ Γ R (dn R.D st) path j o x)
 (hcl:∀j k,L j=true->(R.ms.getD j 0).testBit k=true->L k=true)
 (hsub:∀j,(R.ms.getD i 0).testBit j=true->L j=true) (D:L i=false) (hi':L' i=true) (h:∀j,j≠i->L' j=L j)
 (hR:Rel w0 M T γ (after (dn R.D st) path L) a w) {K:Act->World->Prop}
 (hK:∀x γ' a' w',(∃y,path[i]? =some y/\x.d=y.d)->vN Θ Γ R (dn R.D st) (path.set i x) i o x->Rel w0 M T γ' (after (dn R.D st) (path.set i x) L') a' w'->K a' w'):
 wpOp P ops Q i K a w:=by
 obtain⟨d,hd,hm,hcase⟩:=hen;have Y:=W.len;have hil:i<path.length:=lu;have B:path[i]? =some path[i]:=by simp[hil]
 have hyd:path[i].d=d:=by
  have:=W.dst i o _ F B
  grind
 have hdD:bn R.D d=true:=by rw[← hyd];exact W.azz _ (aH5 B)
 have arF:o.dst=some d\/(o.dst=none/\DL o.op=true/\st.n<=d):=by
  grind [yg]
 have hfit:=W.fits hle hok;have hne:∀y∈pick path 0 L,y.d≠d:=λy J e=>by
  obtain⟨j,E,O⟩:=(rQ _ _).1 J;rw[aIn]at E;have:=W.apart j i y _ O B lu
  grind
 have heff:∀j x,path[j]? =some x->x.u≠[]->L j=true->j∈R.E:=λj x Z hu hL=>by obtain⟨hj,_⟩:=aHN.1 Z;have hoj:ops[j]? =some (ops[j]' lu):=vk;exact hEi j _ hoj lu ((hok j _ x hoj Z hL).fit.2.2.1 hu)
 have aBw:NV R.ms R.E i=true->∀j,j∈R.E->L j=true->(R.ms.getD i 0).testBit j=true:=λhc j hjE hL=>by
  have:=aHS.1 hc j hjE;rw[aIS,aIS]at this;rcases this with g|g|g
  · simp_all
  .exact g
  grind
 have U:(viewAt R (dn R.D st) path i).more (after (dn R.D st) path L):=
  auL hfit hsub W.idx D (λk hk=>by
   grind) (λhc j x Z hu hL=>aBw hc j (heff j x Z hu hL) hL) λe x Z hL q A=>by obtain⟨hj,_⟩:=aHN.1 Z;have hoj:ops[e]? =some (ops[e]' lu):=vk;exact((hok e _ x hoj Z hL).fit.2.2.2 q A).1
 have aGM:∀q,bn (tJ (pick path 0 L)) q=true->bn R.D (q / 64)=true/\q / 64≠d:=λq A=>by
  obtain⟨x,Z,hxq⟩:=(wS _).1 A;obtain⟨e,E,O⟩:=(rQ _ _).1 Z;rw[aIn]at E;obtain⟨hj,_⟩:=aHN.1 O;have hoj:ops[e]? =some (ops[e]' lu):=vk;have hf:=(hok e _ x hoj O E).fit.2.2.2 q hxq;refine⟨hf.2,λe2=>?_⟩;obtain⟨j,g1,g2⟩:=hA e q hf.1;have:=W.idx i _ B
  grind
 have hnone:∀q,q / 64=d->(after (dn R.D st) path L).ah q=none:=λq A=>by
  have hqD:bn R.D (q / 64)=true:=ny;have hP:(pI (dn R.D st) (pick path 0 L)).ah q=none:=by
   unfold pI;dsimp only;rw[NZ _ λy J=>by
    cases hl:look y.u q with
    |none=>rfl
    |some z=>have:=(hfit.upd y J q z hl).2;grind]
   dsimp only;rw[Sz _ λy J=>by
    cases hl:look y.δ q with
    |none=>rfl
    |some z=>exact(hne y J ((wR (hfit.new y J) hl).symm.trans A)).elim]
   exact ap4 hqD
  grind [after,rU,St.kill]
 have hself:∀x:fE,∀j,(R.ms.getD i 0).testBit j=true->path[j]? =(path.set i x)[j]? :=λx j hj=>by
  grind
 have fin:∀(x:fE)(γ':Nat->Value)(w':World)(u:Value),x.d=d->(o.dst=none->x.v=.pG [])->(∀q y,look x.u q=some y->bn R.U q=true/\bn R.D (q / 64)=false)->Ju x.d x.δ=true->(x.u≠[]->i∈R.E)->(∀q∈x.k,bn R.D (q / 64)=true/\q / 64≠d)->
  vN Θ Γ R (dn R.D st) path i o x->Rel w0 M T γ' (((wP x.k (after (dn R.D st) path L)).adds x.u).adds x.δ) a w'->bD (ak w0 T γ' (((wP x.k (after (dn R.D st) path L)).adds x.u).adds x.δ) w') x.v u->K (a.put o.dst u) w':=by
  intro x γ' w' u hxd hxv hxu hxn hxE hxk N8 f hv;have hn2:(((wP x.k (after (dn R.D st) path L)).adds x.u).adds x.δ).n=st.n:=by rw[(MK _ _).2,(MK _ _).2,rU];unfold after;rw[rU];rfl
  have aCs:∀q,bn (tJ (pick (path.set i x) 0 L')) q=true->bn R.D (q / 64)=true/\q / 64≠d:=λq A=>by
   obtain⟨y,hy1,hyq⟩:=(wS _).1 A;obtain⟨e,E,O⟩:=(rQ _ _).1 hy1;rw[aIn]at E;by_cases hei:e=i
   · grind
   grind [wS,rQ]
  have aAT:∀q,bn (tJ (pick (path.set i x) 0 L')) q=true->(((wP x.k (after (dn R.D st) path L)).adds x.u).adds x.δ).ah q=none:=λq A=>by
   obtain⟨g1,g2⟩:=aCs q A;rw[xw,xw];have hδq:look x.δ q=none:=by
    cases hl:look x.δ q with
    |none=>rfl
    |some z=>grind [wR]
   have huq:look x.u q=none:=by
    cases hl:look x.u q with
    |none=>rfl
    |some z=>grind
   rw[hδq,huq];dsimp only;rw[rU];unfold after;rw[rU];obtain⟨y,hy1,hyq⟩:=(wS _).1 A;obtain⟨e,E,O⟩:=(rQ _ _).1 hy1;rw[aIn]at E;by_cases hei:e=i
   · grind [St.kill,wQ]
   .rw[aI5 (aJB hei)]at O;rw[h e hei]at E;have:=(wS (o:=q) (pick path 0 L)).2 ⟨y,(rQ _ _).2 ⟨e,ny,O⟩,hyq⟩;simp only[St.kill,this,aJc];cases bn x.k q<;>rfl
  have hset:Rel w0 M T γ' (St.set (((wP x.k (after (dn R.D st) path L)).adds x.u).adds x.δ) x.d x.v) (a.put o.dst u) w':=by
   rcases arF with X|⟨X,_,hs2⟩
   .rw[X,← hxd];exact f.set x.d ny x.v u hv
   .rw[X];exact f.aCq x.d lu x.v (hxv X)
  have W':Way R ops t0 (path.set i x):=W.set B (by rw[hxd,hyd]);have aDr:Fits R.D R.U (pick (path.set i x) 0 L'):=by
   refine W'.fits (Θ:=Θ) (Γ:=Γ) (base:=dn R.D st) hle λj o' z ho' hz hL=>?_;by_cases e:j=i
   .subst e;rw[List.getElem?_set_self hil]at hz;cases hz;rw[F]at ho';cases ho';exact N8.agree (hself x)
   .rw[aI5 (aJB e)]at hz;rw[h j e]at hL;refine(hok j o' z ho' hz hL).agree λk hk=>?_
    grind
  rw[awN hil D hi' h aDr (λy J=>ny) (λhu j y hj hL J=>by
   grind [uJ]) (AV.yj aAT _ _ hv) (λq y A=>by
   have ES:(((wP x.k (after (dn R.D st) path L)).adds x.u).adds x.δ).ah q=some y:=by
    rw[xw,xw];rcases A with A|A
    .rw[A]
    .have:look x.δ q=none:=by
      cases hl:look x.δ q with
      |none=>rfl
      |some z=>have E:=(hxu q y A).2;rw[(wR hxn hl).trans hxd,hdD]at E;cases E
     rw[this,A]
   refine⟨?_,aI.yj aAT y (f.ah q y ES)⟩
   grind)]at hset
  exact hK x γ' _ _ ⟨_,B,by rw[hxd,hyd]⟩ (N8.agree (hself x)) hset
 have fin2:∀(x:fE)(γ':Nat->Value)(w':World)(u:Value),x.d=d->x.u=[]->(o.dst=none->False)->Ju x.d x.δ=true->(∀q∈x.k,bn R.D (q / 64)=true/\q / 64≠d)->
  vN Θ Γ R (dn R.D st) path i o (qK R.F x)->Rel w0 M T γ' (((wP x.k (after (dn R.D st) path L)).adds []).adds x.δ) a w'->bD (ak w0 T γ' (((wP x.k (after (dn R.D st) path L)).adds []).adds x.δ) w') x.v u->K (a.put o.dst u) w':=by
  intro x γ' w' u hxd hxu hno hxn hxk N8 f hv;obtain⟨l1,l2,l3,l4⟩:=sH R.F x;refine fin (qK R.F x) γ' w' u (l1.trans hxd) (λh=>(hno h).elim) (λq y B=>by rw[l2,hxu]at B;cases B) (aHS.2 λy B=>by rw[l1];exact aHS.1 hxn y (l4 y B)) (λhne=>(hne (l2.trans hxu)).elim) (by rw[l3];exact hxk) N8 ?_ ?_
  all_goals
   rw[l3,l2,hxu];unfold qK;split
   .next q q' e r l fr _ hv2 hu2 hδ=>
    split
    .next hb=>
     have e1:=aHA hb;subst e1;rw[hδ]at f hv hxn;rw[hv2]at hv;have hqd:q / 64=d:=by have:=aHA (aHS.1 hxn _ aHJ);exact this.trans hxd
     have hq0:(wP x.k (after (dn R.D st) path L)).ah q=none:=by rw[rU];simp only[St.kill,hnone q hqd,aJc];cases bn x.k q<;>rfl
     have:=azy (hR.wP x.k) hq0 f hv
     first|exact this.1|exact this.2
    .first|exact f|exact hv
   .first|exact f|exact hv
 have hgv:∀g b y,o.guard=some (g,b)->(R.ms.getD i 0).testBit g=true->path[g]? =some y->∃og,ops[g]? =some og/\og.dst=some y.d/\∃u,a.tmps[y.d]? =some u/\bD (ak w0 T γ (after (dn R.D st) path L) w) (y.v.kill (bn (tJ (pick path 0 L)))) u:=by
  intro g b y hgo hg J;obtain⟨hgl,_⟩:=aHN.1 J;have hog:ops[g]? =some (ops[g]' lu):=vk;have aCt:(ops[g]' lu).dst=some y.d:=by obtain⟨og,e,E,O⟩:=hgd i o g b F hit hgo;rw[hog]at E;cases E;have:=W.dst g _ y hog J;unfold yg at this;rw[O]at this;rw[O];exact this
  have hyD:y.d<st.n:=hDn g _ _ hog lu aCt;have N:y∈pick path 0 L:=(rQ _ _).2 ⟨g,by rw[aIn];exact hsub g hg,J⟩;have htm:(after (dn R.D st) path L).tmps y.d=y.v.kill (bn (tJ (pick path 0 L))):=by unfold after;rw[rU];show(CO (pick path 0 L) y.d _).kill _=_;rw[adE _ N λz hz e=>hfit.one y N z hz e]
  have hr1:=hR.tmps y.d;rw[htm]at hr1;have hsz:y.d<a.tmps.size:=by rw[hR.size];unfold after;rw[rU];exact hyD
  refine⟨_,hog,aCt,a.tmps[y.d],vk,?_⟩;simpa[Array.getD,hsz]using hr1
 unfold wpOp;simp only[F];rcases hcase with⟨hw,hcase⟩|hun
 .have hwant:Region.wanted o (yielded ops a.tmps)=true:=by
   rcases hw with e|⟨g,b,y,e1,e2,e3,e4⟩
   .unfold Region.wanted;rw[e]
   .obtain⟨og,k1,k2,u,k3,k4⟩:=hgv g b y e1 e2 e3;rw[e4]at k4;have k4:u=.bool b:=k4;subst k4;unfold Region.wanted;rw[e1];simp[yielded,k1,k2,k3]
  rw[if_pos hwant];left;rcases hcase with⟨he,ha,p,v,δ,hcalm,C,H⟩|⟨he,ha,p,q,y,happ,C,hq1,hq2,hq3⟩|⟨he,hst,υ,hυ,N⟩|⟨⟨he,hst⟩,p,ρ,os,hrel,C,hall⟩
  .obtain⟨v',hc',hless⟩:=axH U d o.op hcalm;have hfr:kZ (after (dn R.D st) path L) δ=true:=by refine aHS.2 λz hz=>?_;rw[hnone z.1 (aHA (aHS.1 H z hz))];rfl
   refine RU hE hR o hc' C hfr ?_;intro u γ' w' f hv';have hvx:bD (ak w0 T γ' ((after (dn R.D st) path L).adds δ) w') v u:=by
    rcases hless with e|e
    .rw[e];trivial
    .rw[← e];exact hv'
   have N8:vN Θ Γ R (dn R.D st) path i o (qK R.F ⟨d,v,[],δ,[]⟩):=by obtain⟨l1,_⟩:=sH R.F ⟨d,v,[],δ,[]⟩;refine⟨by rw[l1];exact hd,hm,.inl ⟨hw,.inl ⟨he,ha,p,v,δ,by rw[l1];exact hcalm,C,by rw[l1];exact H,by rw[l1]⟩⟩⟩
   exact fin2 ⟨d,v,[],δ,[]⟩ γ' w' u rfl rfl (λh=>by
    rcases arF with X|⟨_,X,_⟩
    .rw[h]at X;cases X
    .rw[ap6 X]at he;cases he) H (λq A=>by cases A) N8 f hvx
  .have aDs:=auG U happ;have N8:vN Θ Γ R (dn R.D st) path i o (qK R.F ⟨d,.sv (.one (.ref (d*64+1))),[],[(d*64+1,y)],[q]⟩):=by obtain⟨l1,_⟩:=sH R.F ⟨d,.sv (.one (.ref (d*64+1))),[],[(d*64+1,y)],[q]⟩;refine⟨by rw[l1];exact hd,hm,.inl ⟨hw,.inr (.inl ⟨he,ha,p,q,y,happ,C,by rw[l1];exact⟨hq1,hq2,hq3⟩,by rw[l1]⟩)⟩⟩
   have hkq:∀s:St,s.kill (bn [q])=s.kill (Nat.beq q ·):=λs=>by
    rw[show bn [q]=(Nat.beq q ·)from funext λo=>by
     simp only[bn];cases E:Nat.beq o q with
     |true=>rw[aHA E,aII]
     |false=>
      cases O:Nat.beq q o with
      |false=>rfl
      |true=>rw[aHA O,aII]at E;cases E]
   refine axP hE hR o (n:=d*64+1) aDs C (hnone (d*64+1) (aBv d)) λu γ' w' f hv=>?_;rw[← hkq]at f hv;exact fin2 ⟨d,.sv (.one (.ref (d*64+1))),[],[(d*64+1,y)],[q]⟩ γ' w' u rfl rfl (λh=>by
    rcases arF with X|⟨_,X,_⟩
    .rw[h]at X;cases X
    .rw[ap6 X]at he;cases he) (by show(Nat.beq ((d*64+1) / 64) d&&true)=true;rw[show(d*64+1) / 64=d from lu,aII];rfl)
    (λr hr=>by rw[show r=q by simpa using hr];exact⟨hq1,hq2⟩) N8 f hv
  .have N8:vN Θ Γ R (dn R.D st) path i o ⟨d,.pG [],υ,[],[]⟩:=⟨hd,hm,.inl ⟨hw,.inr (.inr (.inl ⟨he,hst,υ,hυ,N,rfl⟩))⟩⟩;obtain⟨f1,f2,f3,_⟩:=N8.fit;refine aoa hE hR U o hυ λγ' w' f=>?_;exact fin ⟨d,.pG [],υ,[],[]⟩ γ' w' undef rfl (λ_=>rfl) f2 f1 (λ_=>hEi i o F hit he) (λq A=>by cases A) N8 f ⟨#[],rfl,trivial⟩
  .refine asI hE hR U o hrel C hnone hall λt v υ δ u γ' w' ht hres f hv=>?_;have N8:vN Θ Γ R (dn R.D st) path i o ⟨d,v,υ,δ,[]⟩:=⟨hd,hm,.inl ⟨hw,.inr (.inr (.inr ⟨⟨he,hst⟩,rfl,p,ρ,os,t,hrel,C,ht,hall,hres⟩))⟩⟩;obtain⟨f1,f2,f3,_⟩:=N8.fit;exact fin ⟨d,v,υ,δ,[]⟩ γ' w' u rfl (λh=>by
    rcases arF with X|⟨_,X,_⟩
    .rw[h]at X;cases X
    .rw[hst]at X;cases X) f2 f1 (λ_=>hEi i o F hit he) (λq A=>by cases A) N8 f hv
 .have hwant:Region.wanted o (yielded ops a.tmps)=false:=by
   obtain⟨g,b,y,e1,e2,e3,e4⟩:=hun;obtain⟨og,k1,k2,u,k3,k4⟩:=hgv g b y e1 e2 e3;unfold Region.wanted;rw[e1];rcases e4 with⟨c,e4,hne'⟩|⟨I,e4⟩
   .rw[e4]at k4;have k4:u=.bool c:=k4;subst k4;cases c<;>cases b<;>first|(exact(hne' rfl).elim)|simp[yielded,k1,k2,k3]
   .rw[e4]at k4;obtain⟨us,rfl,_⟩:=k4;simp[yielded,k1,k2,k3]
  rw[if_neg (by rw[hwant];simp)];exact fin (skipped d) γ w undef rfl (λ_=>rfl) (λq y B=>by cases B) rfl (λhu=>(hu rfl).elim) (λq A=>by cases A) ⟨hd,hm,.inr ⟨hun,rfl⟩⟩ hR ⟨#[],rfl,trivial⟩
theorem fill{G:lT}(hE:EnvB P G Θ Γ){base:St}{front:List Oper}
 (ZN:∀ext:List fE,aiy Θ Γ R base front ext->∀o,front[ext.length]? =some o->Enabled Θ Γ R base ext ext.length o)
 (hok:∀j o x,front[j]? =some o->path[j]? =some x->L j=true->vN Θ Γ R base path j o x) (Y:path.length=front.length)
 (hcl:∀j k,L j=true->(R.ms.getD j 0).testBit k=true->L k=true):
 ∀n,n<=front.length->∃ext:List fE,ext.length=n/\aiy Θ Γ R base front ext/\∀j,j<n->L j=true->ext[j]? =path[j]? :=by
 intro n
 induction n with
 |zero=>exactλ_=>⟨[],rfl,(λi o x _ Z=>by simp at Z),(λj b=>lu)⟩
 |succ n ih=>
  intro H;obtain⟨ext,E,O,U⟩:=ih lu;have F:front[n]? =some (front[n]' lu):=vk;have u:∀x:fE,vN Θ Γ R base (ext++[x]) n (front[n]' lu) x->aiy Θ Γ R base front (ext++[x]):=by
   intro x Z i o y D B;rcases aHU i n with hlt|hge
   .rw[awK lu]at B;have:=O i o y D B;refine this.agree λj b=>?_;have:j<i:=by
     rcases aHU j i with h|h
     .exact h
     .rw[uJ this.2.1 h]at b;cases b
    grind
   grind
  cases hL:L n with
  |true=>
   have C:path[n]? =some (path[n]' lu):=vk;have Z:=hok n _ _ F C hL;have z:∀j,(R.ms.getD n 0).testBit j=true->path[j]? =(ext++[path[n]' lu])[j]? :=λj b=>by
    have hjn:j<n:=by
     rcases aHU j n with h|h
     .exact h
     .rw[uJ Z.2.1 h]at b;cases b
    grind
   refine⟨ext++[path[n]' lu],by simp[E],u _ (Z.agree z),λj b hLj=>?_⟩
   grind
  |false=>
   have W:=ZN ext O _ (by rw[E];exact F);rw[E]at W;have z:∀x:fE,(∃d,yg R.n n (front[n]' lu)=some d/\R.ms.getD n 0<2 ^ n)->∀j,(R.ms.getD n 0).testBit j=true->ext[j]? =(ext++[x])[j]? :=λx⟨_,_,l⟩ j b=>by
    grind [uJ]
   obtain⟨d,hd,l,hc⟩:=W;have Z:∃x,vN Θ Γ R base ext n (front[n]' lu) x:=by
    rcases hc with⟨hw,⟨g,ha,p,v,δ,hcalm,C,hnm⟩|⟨g,ha,p,q,y,J,C,hq⟩|⟨g,A,υ,hυ,N⟩|⟨⟨g,A⟩,p,ρ,os,hrel,C,e⟩⟩|hun
    .exact⟨qK R.F ⟨d,v,[],δ,[]⟩,apV,l,.inl ⟨hw,.inl ⟨g,ha,p,v,δ,apV,C,apV,apV⟩⟩⟩
    .exact⟨qK R.F ⟨d,.sv (.one (.ref (d*64+1))),[],[(d*64+1,y)],[q]⟩,apV,l,.inl ⟨hw,.inr (.inl ⟨g,ha,p,q,y,J,C,apV,apV⟩)⟩⟩
    .exact⟨⟨d,.pG [],υ,[],[]⟩,hd,l,.inl ⟨hw,.inr (.inr (.inl ⟨g,A,υ,hυ,N,rfl⟩))⟩⟩
    .have hne:∃t,ρ.R t:=by
      unfold Yo at hrel;split at hrel
      case h_2=>cases hrel
      next f args sG hop=>
      split at hrel
      case h_2=>cases hrel
      next ms con K=>
      split at hrel
      case h_2=>cases hrel
      next I os' ads=>
      split at hrel
      case h_2=>cases hrel
      split at hrel
      case h_2=>cases hrel
      next q ρ' hq=>
      cases hrel;exact((hE.arB f ms con K).1 I _ ρ hq C).1
     obtain⟨t,ht⟩:=hne;obtain⟨⟨v,υ,δ⟩,X⟩:=e t ht;exact⟨⟨d,v,υ,δ,[]⟩,hd,l,.inl ⟨hw,.inr (.inr (.inr ⟨⟨g,A⟩,rfl,p,ρ,os,t,hrel,C,ht,e,X⟩))⟩⟩
    .exact⟨skipped d,hd,l,.inr ⟨hun,rfl⟩⟩
   obtain⟨x,Z⟩:=Z;refine⟨ext++[x],by simp[E],u x (Z.agree (z x ⟨d,hd,l⟩)),λj b hLj=>?_⟩
   grind
end Go.Fw
namespace Go.Fw
open Go
variable {P:Program}
def handsOn(o:Oper):Option Operand:=match o.op,o.guard with
 |.move x,none=>some x
 |.extract x _,none=>some x
 |_,_=>none
def Operand.Ul(d:Nat):Operand->Bool
 |.tmp t=>!(Nat.beq t d)
 |_=>true
def aiz(d:Nat)(o:Oper):Bool:=match o.op,o.guard with
 |.move x,none|.assign x,none|.extract x _,none=>Operand.Ul d x
 |.store _ a x,none=>Operand.Ul d a&&Operand.Ul d x
 |_,_=>false
def passes(f o:Oper):Bool:=match handsOn f,f.dst with
 |some x,some d=>aiz d o&&(match o.dst with|some e=>!(Nat.beq e d)&&Operand.Ul e x|none=>true)
 |_,_=>false
variable {a:Act}
theorem eval_put_ne{d:Option Tmp}{v:Value}{x:Operand}(h:∀e,d=some e->Operand.Ul e x=true):(a.put d v).eval x=a.eval x:=by
 cases d with
 |none=>rfl
 |some e=>
  cases x with
  |tmp t=>
   have b:e≠t:=λh=>by simp_all [Operand.Ul]
   show(a.tmps.setIfInBounds e v).getD t undef=a.tmps.getD t undef
   simp_all
  |const _=>rfl
  |global _=>rfl
  |func _=>rfl
theorem put_comm{d e:Option Tmp}{u v:Value}(h:∀x y,d=some x->e=some y->x≠y):(a.put d u).put e v=(a.put e v).put d u:=by
 cases d with
 |none=>rfl
 |some x=>cases e with
  |none=>rfl
  |some y=>
   grind [Act.put,Array.setIfInBounds_comm]
theorem asJ{f:Oper}{x:Operand}(q:handsOn f=some x):f.guard=none/\
 ((∃g:Value->Option Value,(∀b:Act,∀d,(match g (b.eval x)with|some u=>(execOp b.eval f).run P d=.ok (.value u) d|none=>∃m,(execOp b.eval f).run P d=m/\∀next Q,¬f.upon P b next Q m)))):=by
 unfold handsOn at q;split at q
 .next y hop hg=>cases q;exact⟨hg,λv=>some v,λb d=>Sr⟩
 .next y ix hop hg=>
  cases q;refine⟨hg,λv=>match v with|.tuple vs=>vs[ix]? |_=>none,λb d=>?_⟩;cases K:b.eval x with
  |tuple vs=>
   cases i:vs[ix]? with
   |some u=>simp_all [execOp,Instr.extract]
   |none=>
    simp_all [execOp,Instr.extract,Oper.upon]
  |_=>simp[execOp,hop,K,Instr.extract,stuck,Oper.upon]
 .cases q
variable {o:Oper}
theorem aqZ{d:Nat}(h:aiz d o=true):o.guard=none/\
 (∀(a:Act)(v:Value),execOp (a.put (some d) v).eval o=execOp a.eval o)/\
 (∀(a:Act)(w:World),(∃v f,(execOp a.eval o).run P w=.ok (.value v) f)\/(∃f,(execOp a.eval o).run P w=.ok .skip f)\/∃x f,(execOp a.eval o).run P w=.halt x f):=by
 unfold aiz at h;have i:∀(a:Act)(v:Value)(x:Operand),Operand.Ul d x=true->(a.put (some d) v).eval x=a.eval x:=λa v x Z=>eval_put_ne λe g=>ny;split at h
 · simp_all [execOp]
 · simp_all [execOp]
 .next x ix hop hg=>
  refine⟨hg,λa v=>?_,λa w=>?_⟩
  · grind [execOp]
  .cases hr:(Instr.extract (a.eval x) ix).run P w with
   |ok u f=>simp_all [execOp]
   |halt u f=>simp_all [execOp]
 .next t b x hop hg=>
  refine⟨hg,λa v=>?_,λa w=>?_⟩
  · grind [execOp]
  .cases hr:(Instr.storeAt t (a.eval b) (a.eval x)).run P w with
   |ok u f=>simp_all [execOp]
   |halt u f=>simp_all [execOp]
 .cases h
def stepW(P:Program)(ops:Array Oper)(Q:Exit->Act->World->Prop)(o:Oper)(K:Act->World->Prop)(a:Act)(w:World):Prop:=
 if Region.wanted o (yielded ops a.tmps)then o.wp P a w K Q\/(o.asks P a w/\LetsOut Q)else K (a.put o.dst undef) w
variable {ops:Array Oper}{Q:Exit->Act->World->Prop}{K:Act->World->Prop}{w:World}
theorem ZO{b:Act->World->Prop}(h:∀a w,K a w->b a w)(X:stepW P ops Q o K a w):stepW P ops Q o b a w:=by
 grind [stepW,Oper.wp_mono]
theorem SA(b:¬LetsOut Q)(d:o.guard=none):stepW P ops Q o K a w↔o.wp P a w K Q:=by
 grind [Region.wanted,stepW]
theorem awS(D:∀c a w,¬Q (.panic c) a w)(q:¬LetsOut Q){f:Oper}(h:passes f o=true)
 (X:stepW P ops Q f (stepW P ops Q o K) a w):stepW P ops Q o (stepW P ops Q f K) a w:=by
 unfold passes at h;split at h
 .next x d Z hd=>
  rw[aHy]at h;obtain⟨C,z⟩:=h;obtain⟨l,g,t⟩:=asJ (P:=P) Z;obtain⟨m,j,n⟩:=aqZ (P:=P) C;rw[SA q l]at X;rw[SA q m];have s:∀(v:Value),(a.put o.dst v).eval x=a.eval x:=λv=>eval_put_ne λe F=>by
   grind
  have r:∀(u v:Value),(a.put f.dst u).put o.dst v=(a.put o.dst v).put f.dst u:=λu v=>put_comm λx y Z B=>by intro e;simp_all
  have S:=t a w;cases k:g (a.eval x)with
  |none=>
   grind [Oper.wp]
  |some u=>
   rw[k]at S;unfold Oper.wp at X;rw[S]at X;have X:stepW P ops Q o K (a.put f.dst u) w:=X;rw[SA q m]at X;unfold Oper.wp at X ⊢;rw[hd,j]at X;rw[← hd]at X;have b:∀(v:Value)(i:World),K ((a.put f.dst u).put o.dst v) i->stepW P ops Q f K (a.put o.dst v) i:=by
    intro v i A;rw[SA q l];have E:=t (a.put o.dst v) i;rw[s,k]at E;unfold Oper.wp;rw[E];show K _ _
    grind
   rcases n a w with⟨v,i,W⟩|⟨i,W⟩|⟨y,i,W⟩
   .rw[W]at X ⊢;exact b v i X
   .rw[W]at X ⊢;exact b undef i X
   .rw[W]at X;cases y<;>simp only[Oper.upon]at X
    grind
 .cases h
def QE(P:Program)(ops:Array Oper)(Q:Exit->Act->World->Prop)(K:Act->World->Prop):List Oper->Act->World->Prop
 |[]=>K
 |o::r=>stepW P ops Q o (QE P ops Q K r)
theorem ahu{ops:Array Oper}{Q:Exit->Act->World->Prop}:∀(l:List Oper),QE P ops Q (Q .normal) l=wpList P ops Q l
 |[]=>rfl
 |o::r=>by rw[QE,ahu r];rfl
theorem aiA{ops:Array Oper}{Q:Exit->Act->World->Prop}(d:∀c a w,¬Q (.panic c) a w)(b:¬LetsOut Q){o:Oper}{K:Act->World->Prop}(B:List Oper):
 ∀(A:List Oper)(a:Act)(w:World),(∀f∈A,passes f o=true)->QE P ops Q K (A++o::B) a w->stepW P ops Q o (QE P ops Q K (A++B)) a w
 |[],_,_,_,hs=>hs
 |f::A,a,w,h,hs=>by exact awS d b (h f aHJ) (ZO (λa w e=>aiA d b B A a w (λf q=>h f (aHC _ q)) e) hs)
theorem wpOp_step{i:Nat}(F:ops[i]? =some o):wpOp P ops Q i K a w↔stepW P ops Q o K a w:=by
 grind [wpOp,stepW]
theorem adI{listed:Array Bool}(d:∀i j,listed.getD i false=true->((masks ops.toList []).getD i 0).testBit j=true->listed.getD j false=true){i:Nat}(F:ops[i]? =some o)
 (D:i∈Region.ready .any ops listed) (j:Nat) (h:((masks ops.toList []).getD i 0).testBit j=true):listed.getD j false=true:=by
 obtain⟨l,k,H,b⟩:=Ik.1 D;obtain⟨e,g,J,f⟩:=ax3 (ops:=ops.toList) (i:=i) (o:=o) (by simpa using F) h
 grind
theorem azB(hQ:∀c a w,¬Q (.panic c) a w)(hO:¬LetsOut Q){t0:Nat}{S:Nat->Prop}
 (T:∀i o j f,ops[i]? =some o->ops[j]? =some f->j<i->t0<=i\/(S i/\S j)->((masks ops.toList []).getD i 0).testBit j=true\/(S j/\passes f o=true)) (hS:∀j,S j->j<t0)
 (hlt:∀i o,ops[i]? =some o->(masks ops.toList []).getD i 0<2 ^ i):
 ∀(n:Nat)(F:List (Nat×Oper))(l:List Oper)(k:Nat)(listed:Array Bool)(a:Act)(w:World),t0<=k->k<=ops.size->(∀j,l[j]? =ops[k+j]?)->listed.size=ops.size->
  (∀x∈F,ops[x.1]? =some x.2/\S x.1)->F.Pairwise (λx y=>x.1<y.1)->
  (∀i,i<ops.size->(listed.getD i false=true↔i<k/\∀x∈F,x.1≠i))->
  (∀i j,listed.getD i false=true->((masks ops.toList []).getD i 0).testBit j=true->listed.getD j false=true)->
  F.length+ops.size<=k+n->QE P ops Q (Q .normal) (F.map (·.2)++l) a w->wpAny P .any ops Q n listed a w:=by
 intro n;have aCu:∀{i:Nat}{o:Oper},ops[i]? =some o->∀e∈o.after,Region.binds .any e=true->e.on<i:=by
  intro i o d e g J;have awT:=ap1 (ops:=ops.toList) (i:=i) (o:=o) ald g J
  grind [uJ]
 have aBx:∀(k:Nat)(l:List Oper)(listed:Array Bool),(∀j,l[j]? =ops[k+j]?)->listed.size=ops.size->(∀i,i<ops.size->(listed.getD i false=true↔i<k/\∀x∈([]:List (Nat×Oper)),x.1≠i))->l=[]->Region.ready .any ops listed=[]:=by
  intro k l listed H t r hnil;have hend:ops.size<=k:=by
   rcases aHU k ops.size with h|h
   .have:=H 0;grind
   .exact h
  refine List.eq_nil_iff_forall_not_mem.2 λi D=>?_
  grind [Ik]
 induction n with
 |zero=>
  intro F l k listed a w u hkz H t O C r hcl q X;have hk2:ops.size<=k/\F.length=0:=lu;obtain⟨hk2,hF0⟩:=hk2;have hFn:F=[]:=aH0.1 hF0;subst hFn;have hln:l=[]:=by
   cases l with
   |nil=>rfl
   |cons o l=>have:=H 0;grind
  subst hln;exact wpAny_done (aBx k [] listed H t r rfl) X 0
 |succ n ih=>
  intro F l k listed a w u hkz H t O C r hcl q X;have N:∀i,i<listed.size->∀j,(listed.setIfInBounds i true).getD j false=(if j=i then true else listed.getD j false):=by
   intro i D j;split
   · simp_all
   .next e=>exact getD_set_ne false (aJB e)
  have Y:∀i o,ops[i]? =some o->i∈Region.ready .any ops listed->∀j m,(listed.setIfInBounds i true).getD j false=true->((masks ops.toList []).getD j 0).testBit m=true->(listed.setIfInBounds i true).getD m false=true:=by
   intro i o d D j m hj hm;obtain⟨hi1,_⟩:=aHz.1 d
   grind [adI]
  refine⟨λhnone=>?_,λi D=>?_⟩
  .cases F with
   |cons x F=>
    exfalso;obtain⟨L,M⟩:=O x aHJ;have aG2:=hS _ M;obtain⟨hxs,_⟩:=aHz.1 L;have I:listed.getD x.1 true=false:=by
     grind
    have:x.1∈Region.ready .any ops listed:=by
     grind [Ik,List.pairwise_cons]
    grind
   |nil=>
    cases l with
    |nil=>exact X
    |cons o l=>
     exfalso;have d:ops[k]? =some o:=by simpa using(H 0).symm
     obtain⟨hks,_⟩:=aHz.1 d;have I:listed.getD k true=false:=by
      rw[VZ lu];cases J:listed.getD k false with
      |false=>rfl
      |true=>have:=((r k hks).1 J).1;omega
     have:k∈Region.ready .any ops listed:=by refine Ik.2 ⟨o,d,I,λe g J=>?_⟩;have aCv:=aCu d e g J;exact(r e.on lu).2 ⟨lu,λy b=>by cases b⟩
     grind
  .obtain⟨o,d,hn,_⟩:=Ik.1 D;obtain⟨his,_⟩:=aHz.1 d;have I:listed.getD i false=false:=by rw[← VZ lu];exact hn
   have s:=adI hcl d D;rw[wpOp_step d];by_cases R:∃x∈F,x.1=i
   .obtain⟨x,hxF,rfl⟩:=R;obtain⟨A,B,rfl⟩:=List.append_of_mem hxF;obtain⟨L,M⟩:=O x hxF;rw[d]at L;have hxo:x.2=o:=(Option.some.inj L).symm;have hpA:∀y∈A,y.1<x.1:=λy b=>(aJN.1 C).2.2 y b x aHJ;have hpB:∀y∈B,x.1<y.1:=λy b=>(aIl.1 (aJN.1 C).2.1).1 y b;have hw2:QE P ops Q (Q .normal) (A.map (·.2)++o::(B.map (·.2)++l)) a w:=by rw[aIk,aHT,hxo,aHO]at X;exact X
    refine ZO ?_ (aiA hQ hO _ _ a w (λf q=>?_) hw2)
    .intro a' w' h';refine ih (A++B) l k _ a' w' u hkz H (by simpa using t) (λy b=>O y ?_) ?_ ?_ (Y x.1 o d D) ?_ (by rw[aIk,aHO];exact h')
     .rcases aH3.1 b with h|h
      .exact aIh _ h
      .exact aIA _ (aHC _ h)
     .rw[aJN]at C ⊢;exact⟨C.1,(aIl.1 C.2.1).2,λy b z hz=>C.2.2 y b z (aHC _ hz)⟩
     .intro j hj;rw[N x.1 lu];split
      .next e=>
       subst e;refine⟨λ_=>⟨by have:=hS _ M;omega,λy b=>?_⟩,λ_=>rfl⟩;rcases aH3.1 b with h|h
       .have:=hpA y h;omega
       .have:=hpB y h;omega
      .next e=>
       rw[r j hj];refine aKb λ_=>⟨λh y b=>?_,λh y b=>?_⟩
       .rcases aH3.1 b with h'|h'
        .exact h y (aIh _ h')
        .exact h y (aIA _ (aHC _ h'))
       .rcases aH3.1 b with h'|h'
        .exact h y (aIh _ h')
        .rcases aHH.1 h' with rfl|h'
         .exactλe'=>e e'.symm
         .exact h y (aIA _ h')
     .simp only[aHu,aHx]at q ⊢;omega
    .obtain⟨y,b,rfl⟩:=aIo.1 q;obtain⟨E,U⟩:=O y (aIh _ b);obtain⟨W,_⟩:=aHz.1 E;rcases T x.1 o y.1 y.2 d E (hpA y b) (.inr ⟨M,U⟩)with J|J
     .have:=((r y.1 W).1 (s y.1 J)).2 y (aIh _ b) rfl;exact this.elim
     .exact J.2
   .have hge:k<=i:=by
     rcases aHU i k with h|h
     .have:=(r i his).2 ⟨h,λx Z e=>R ⟨x,Z,e⟩⟩;rw[I]at this;cases this
     .exact h
    have hik:i=k:=by
     rcases aHU k i with h|h
     .exfalso;have hok:∃f,ops[k]? =some f:=⟨ops[k]' lu,vk⟩;obtain⟨f,hof⟩:=hok;rcases T i o k f d hof h (.inl lu)with J|J
      .have:=((r k lu).1 (s k J)).1;omega
      .have:=hS _ J.1;omega
     .omega
    subst hik;cases l with
    |nil=>have:=H 0;rw[aJn,d]at this;cases this
    |cons o' l=>
     have ho':ops[i]? =some o':=by simpa using(H 0).symm
     rw[d]at ho';cases ho';refine ZO ?_ (aiA hQ hO _ _ a w (λf q=>?_) X)
     .intro a' w' h';refine ih F l (i+1) _ a' w' lu lu (λj=>by have:=H (j+1);simpa[Nat.add_assoc,Nat.add_comm 1 j]using this) (by simpa using t) O C ?_ (Y i o d D) lu h';intro j hj;rw[N i lu];split
      .next e=>subst e;exact⟨λ_=>⟨lu,λx Z e=>R ⟨x,Z,e⟩⟩,λ_=>rfl⟩
      .next e=>rw[r j hj];exact and_congr_left λ_=>lu
     .obtain⟨y,b,rfl⟩:=aIo.1 q;obtain⟨E,U⟩:=O y b;obtain⟨W,_⟩:=aHz.1 E;have:=hS _ U;rcases T i o y.1 y.2 d E lu (.inl u)with J|J
      .exact(((r y.1 W).1 (s y.1 J)).2 y b rfl).elim
      .exact J.2
end Go.Fw
namespace Go.Fw
open Go
variable {P:Program} {w0:World} {M:Nat->Prop} {T:Ext} {γ γ':Nat->Value} {st:St} {a:Act} {w w':World} {Θ:jY} {Γ:kY}
def asK:Op->Bool
 |.store _ _ _=>false
 |.call {callee:=.builtin .append,.. }|.call {callee:=.builtin .copy,.. }|.call {callee:=.builtin .clear,.. }=>false
 |_=>true
def awU(m:List Nat)(o:Oper):Bool:=match o.op,o.guard with
 |.call {callee:=.builtin .append,args,.. },none=>match args.toList with
  |.tmp t::_=>bn m t
  |_=>false
 |_,_=>false
def madeBy(m:List Nat)(o:Oper):List Nat:=match o.op,o.dst with
 |.buildSlice _ _ _,some d=>d::m
 |.call {callee:=.builtin .append,.. },some d=>d::m
 |_,_=>m
def adJ:List Nat->List Oper->Nat
 |_,[]=>0
 |m,o::r=>match asK o.op||awU m o with|true=>adJ (madeBy m o) r+1|false=>0
def adK:List Nat->List Oper->Nat
 |_,[]=>0
 |m,o::r=>match asK o.op||(awU m o||DL o.op)with|true=>adK (madeBy m o) r+1|false=>0
def avr(m:List Nat)(o:Oper):List Nat:=match o.op,o.dst with
 |.call {callee:=.value (.func _),.. },some d=>d::m
 |_,_=>madeBy m o
def akV:List Nat->List Oper->Nat
 |_,[]=>0
 |m,o::r=>match asK o.op||(awU m o||DL o.op)with|true=>akV (avr m o) r+1|false=>0
def adL:Nat->List Oper->List (Nat×Nat)
 |_,[]=>[]
 |i,o::r=>match o.op with
  |.call {callee:=.builtin .append,args,.. }=>match args.toList with
   |.tmp t::_=>(i,t*64+1)::adL (i+1) r
   |_=>adL (i+1) r
  |_=>adL (i+1) r
def ax7(R:Reg):Bool:=R.A.all λx=>match idxOf R.D (x.2 / 64) 0 with
 |some j=>(R.ms.getD x.1 0).testBit j
 |none=>false
theorem asL{e q:Nat}:∀(A:List (Nat×Nat)),Pq A e q=true->(e,q)∈A
 |[],h=>zH
 |(e',q')::r,h=>by
  rw[Pq]at h;split at h
  .next hb=>rw[aHy]at hb;rw[aHA hb.1,aHA hb.2];exact aHJ
  .exact aHC _ (asL r h)
theorem auM{R:Reg}(h:ax7 R=true)(e q:Nat)(l:Pq R.A e q=true):∃j,idxOf R.D (q / 64) 0=some j/\(R.ms.getD e 0).testBit j=true:=by
 have:=aHS.1 h _ (asL _ l)
 grind
def QF:Nat->List Nat->Bool
 |_,[]=>true
 |i,m::r=>Nat.beq (m+1) (2 ^ i)&&QF (i+1) r
def ax8(t0:Nat)(b:List Nat):List Nat:=(List.range t0).filter λj=>!((b.drop t0).all λm=>m.testBit j)
def akW(ops:List Oper)(j i:Nat):Bool:=match ops[j]?,ops[i]? with
 |some f,some o=>passes f o
 |_,_=>false
def lateRow(ops:List Oper)(S:List Nat)(m i:Nat):Bool:=(List.range i).all λj=>m.testBit j||(bn S j&&akW ops j i)
def asM(ops:List Oper)(t0:Nat)(b:List Nat)(S:List Nat):Bool:=
 (List.range ops.length).all λi=>match Nat.ble t0 i with
   |true=>Nat.blt (b.getD i 0) (2 ^ i)&&lateRow ops S (b.getD i 0) i
   |false=>match bn S i with
    |true=>S.all λj=>Nat.ble i j||((b.getD i 0).testBit j||akW ops j i)
    |false=>true
def Yq(ops:List Oper)(t0:Nat)(b:List Nat):Bool:=match QF t0 (b.drop t0)with
 |true=>true
 |false=>asM ops t0 b (ax8 t0 b)
def front(l:List Oper):Nat:=match Yq l (adJ [] l) (masks l [])with
 |true=>adJ [] l
 |false=>match Yq l (adK [] l) (masks l [])with|true=>adK [] l|false=>akV [] l
def asN(l:List Oper):Bool:=l.all λo=>match o.guard with
 |some (g,_)=>match l[g]? with
  |some og=>og.dst.isSome
  |none=>false
 |none=>true
def avs(n:Nat)(l:List Oper):Bool:=l.all λo=>match o.dst with|some d=>Nat.blt d n|none=>true
def akX(own:Nat->Bool):List Oper->List Nat
 |[]=>[]
 |o::r=>match asj o.op,o.dst with
  |true,some d=>match own d with|true=>akX own r|false=>d::akX own r
  |_,_=>akX own r
def aob(own:Nat->Bool)(l:List Oper)(s:St):St:=
 match akX own l with
 |[]=>s
 |z=>s.freeze λo=>bn z (o / 64)&&!(Nat.beq (o%64) 0)
def afG(d:Nat):List (Nat×Operand)->Bool
 |[]=>false
 |(_,.tmp t)::r=>Nat.beq t d||afG d r
 |_::r=>afG d r
def aDt(l:List Oper)(d:Nat):Bool:=l.any λb=>match b.op,b.dst with
 |.build _ ps,some e=>afG d ps.toList&&l.any λc=>match c.op with|.buildSlice _ _ qs=>afG e qs.toList|_=>false
 |_,_=>false
def ZP(b:List Oper):List Oper->List Nat
 |[]=>[]
 |o::r=>match afF o.op,o.dst with
  |true,some d=>match aDt b d with|true=>d::ZP b r|false=>ZP b r
  |_,_=>ZP b r
def aBy(own:Nat->Bool)(l:List Oper):List Nat:=(akX own l++ZP l l).filter λd=>!((adL 0 l).any λx=>Nat.beq x.2 (d*64+1))
def uK(n:Nat)(own:Nat->Bool)(Γ:kY)(U:List Nat)(ops:List Oper):Reg:=⟨dstsOf n 0 (ops.take (front ops)),U,masks ops [],Yn Γ 0 (ops.take (front ops)),adL 0 (ops.take (front ops)),n,aBy own (ops.take (front ops))⟩
def VT(Θ:jY)(Γ:kY)(own:Nat->Bool)(U:List Nat)(ops:List Oper)(K:St->Prop)(st:St):Prop:=
 match nodup (uK st.n own Γ U ops).D&&(avs st.n (ops.take (front ops))&&(Yq ops (front ops) (uK st.n own Γ U ops).ms&&((uK st.n own Γ U ops).E.all (NV (uK st.n own Γ U ops).ms (uK st.n own Γ U ops).E)&&(ax7 (uK st.n own Γ U ops)&&asN ops))))with
 |true=>xK Θ Γ (uK st.n own Γ U ops) (dn (uK st.n own Γ U ops).D st) (λb=>
   runs Θ Γ own ops K (ops.drop (front ops)) (aob own (ops.take (front ops)) (after (dn (uK st.n own Γ U ops).D st) b λ_=>true))) 0 (ops.take (front ops)) []
 |false=>False
theorem ap7:∀(m:List Nat)(l:List Oper),adJ m l<=l.length
 |_,[]=>aHv _
 |m,o::r=>by
  rw[adJ];split
  .have:=ap7 (madeBy m o) r;rw[aHx];omega
  .exact aHV _
theorem ap8:∀(m:List Nat)(l:List Oper),adK m l<=l.length
 |_,[]=>aHv _
 |m,o::r=>by
  rw[adK];split
  .have:=ap8 (madeBy m o) r;rw[aHx];omega
  .exact aHV _
theorem ap9:∀(m:List Nat)(l:List Oper),akV m l<=l.length
 |_,[]=>aHv _
 |m,o::r=>by
  rw[akV];split
  .have:=ap9 (avr m o) r;rw[aHx];omega
  .exact aHV _
theorem azC(l:List Oper):front l<=l.length:=by
 grind [front,ap7,ap8,ap9]
variable {i:Nat}{o:Oper}
theorem aq0{l:List Oper}(h:asN l=true){g:Nat}{b:Bool}(F:l[i]? =some o)(f:o.guard=some (g,b)):∃e d,l[g]? =some e/\e.dst=some d:=by
 have:=aHS.1 h o (aH5 F)
 grind [Option.isSome_iff_exists]
theorem asO{n:Nat}{l:List Oper}(h:avs n l=true){d:Nat}(F:l[i]? =some o)(b:o.dst=some d):d<n:=by
 have:=aHS.1 h o (aH5 F)
 simp_all
theorem ahv:∀{l:List Nat}{k:Nat},QF k l=true->∀i m,l[i]? =some m->m+1=2 ^ (k+i)
 |[],_,_,i,m,hm=>by simp at hm
 |x::r,k,h,0,m,hm=>by
  grind [QF,Nat.eq_of_beq_eq_true]
 |x::r,k,h,i+1,m,hm=>by
  rw[QF,aHy]at h;have:=ahv h.2 i m (by simpa using hm)
  grind
theorem adM:∀(l:List Oper)(b:List Nat),(masks l b).length=b.length+l.length
 |[],b=>by simp[masks]
 |o::r,b=>by rw[masks,adM r];simp;omega
theorem akY:∀{l:List Nat},nodup l=true->∀(i j:Nat)(x:Nat),l[i]? =some x->l[j]? =some x->i=j
 |[],_,i,j,x,hi,_=>by simp at hi
 |y::r,h,i,j,x,hi,hj=>by
  rw[nodup,aHy]at h;have b:y ∉ r:=λd=>by have:=wQ.2 d;rw[this]at h;simp at h
  match i,j with
  |0,0=>rfl
  |0,j+1=>simp at hi hj;exact(b (hi▸aH5 hj)).elim
  |i+1,0=>simp at hi hj;exact(b (hj▸aH5 hi)).elim
  |i+1,j+1=>rw[akY h.2 i j x hi hj]
theorem SB{n:Nat}:∀{l:List Oper}{k:Nat},(∀(i:Nat)(o:Oper),l[i]? =some o->∃d,yg n (k+i) o=some d)->∀(i:Nat)(o:Oper)(d:Nat),l[i]? =some o->yg n (k+i) o=some d->(dstsOf n k l)[i]? =some d
 |[],_,_,i,o,d,hi,_=>by simp at hi
 |x::r,k,h,i,o,d,hi,hd=>by
  obtain⟨e,g⟩:=h 0 x rfl;rw[aJn]at g;rw[dstsOf,g]
  match i with
  |0=>grind
  |i+1=>simp;exact SB (k:=k+1) (λj f b=>by rw[show k+1+j=k+(j+1)from lu];simp_all) i o d ah2 ny
theorem asP{ops:List Oper}{S:List Nat}{m:Nat}(h:lateRow ops S m i=true){j:Nat}(b:j<i){f:Oper}(F:ops[i]? =some o)(q:ops[j]? =some f):m.testBit j=true\/(bn S j=true/\passes f o=true):=by
 have:=aHS.1 h j (aIL.2 b)
 grind [akW]
theorem abP{ops:List Oper}{t0:Nat}{b S:List Nat}(h:asM ops t0 b S=true)(F:ops[i]? =some o):
 (t0<=i->b.getD i 0<2 ^ i)/\∀{j:Nat}{f:Oper},ops[j]? =some f->j<i->t0<=i\/(bn S i=true/\bn S j=true)->(b.getD i 0).testBit j=true\/(bn S j=true/\passes f o=true):=by
 obtain⟨D,_⟩:=aHN.1 F;have:=aHS.1 h i (aIL.2 D)
 grind [Nat.blt_eq,asP,Nat.ble_eq_true_of_le,wQ,akW,Nat.le_of_ble_eq_true]
theorem akZ(L:Nat->Bool):∀(n:Nat),((List.range n).filter λi=>!(L i)).length=MN L n
 |0=>rfl
 |n+1=>by
  rw[aJO,aJd,aHu,akZ L n,MN];cases h:L n
  .simp[h,Nat.add_comm]
  .simp[h]
theorem asQ(L:Nat->Bool){t0:Nat}(h:∀i,t0<=i->L i=false):∀(n:Nat),t0<=n->MN L n=MN L t0+(n-t0)
 |0,hn=>by
  grind
 |n+1,hn=>by
  rcases aHU n t0 with b|b
  .have:t0=n+1:=lu;subst this;simp
  .rw[MN,h n b,asQ L h n b];simp only;omega
structure afH(Θ:jY)(Γ:kY)(w0:World)(M:Nat->Prop)(T:Ext)(st:St)(R:Reg)(ops:Array Oper)(t0:Nat)(listed:Array Bool)(path:List fE)(γ:Nat->Value)(a:Act)(w:World):Prop where
 way:Way R ops t0 path
 size:listed.size=ops.size
 tail:∀i,t0<=i->listed.getD i false=false
 shut:∀i j,listed.getD i false=true->((masks ops.toList []).getD i 0).testBit j=true->listed.getD j false=true
 ok:∀j o x,ops[j]? =some o->path[j]? =some x->listed.getD j false=true->vN Θ Γ R (dn R.D st) path j o x
 rel:Rel w0 M T γ (after (dn R.D st) path λi=>listed.getD i false) a w
variable {ops:Array Oper}
theorem ax9{G:lT}(hE:vM P G Θ Γ w0 M){Q:Exit->Act->World->Prop}(hQ:∀c a w,¬Q (.panic c) a w)(hO:¬LetsOut Q){R:Reg}{t0:Nat}{K:List fE->Prop}(ht0:t0<=ops.size)(hms:R.ms=masks ops.toList [])
 (hRn:R.n=st.n) (hDn:∀i o d,ops[i]? =some o->i<t0->o.dst=some d->d<st.n) (hgd:∀i o g b,ops[i]? =some o->i<t0->o.guard=some (g,b)->∃og d,ops[g]? =some og/\og.dst=some d) (hcmp:∀e∈R.E,NV R.ms R.E e=true) (hEi:∀j o',ops[j]? =some o'->j<t0->EW Γ o'.op=true->j∈R.E)
 (hA:∀e q,Pq R.A e q=true->∃j,idxOf R.D (q / 64) 0=some j/\(R.ms.getD e 0).testBit j=true)
 (ZN:∀ext:List fE,ext.length<=t0->aiy Θ Γ R (dn R.D st) (ops.toList.take t0) ext->(ext.length=t0->K ext)/\∀o,(ops.toList.take t0)[ext.length]? =some o->Enabled Θ Γ R (dn R.D st) ext ext.length o)
 {S:Nat->Prop} (hfl:∀i o j f,ops[i]? =some o->ops[j]? =some f->j<i->t0<=i\/(S i/\S j)->((masks ops.toList []).getD i 0).testBit j=true\/(S j/\passes f o=true)) (hS:∀j,S j->j<t0)
 (hlt:∀i o,ops[i]? =some o->(masks ops.toList []).getD i 0<2 ^ i)
 (hend:∀m γ' a' w',K m->m.length=t0->Rel w0 M T γ' (after (dn R.D st) m λ_=>true) a' w'->wpList P ops Q (ops.toList.drop t0) a' w'):
 ∀(r:Nat)(listed:Array Bool)(m:List fE)(γ:Nat->Value)(a:Act)(w:World),afH Θ Γ w0 M T st R ops t0 listed m γ a w->
  MN (λi=>listed.getD i false) ops.size<=r->wpAny P .any ops Q r listed a w:=by
 have anS:(ops.toList.take t0).length=t0:=KW;have hget:∀j o,(ops.toList.take t0)[j]? =some o↔j<t0/\ops[j]? =some o:=λj o=>by
  grind
 have fin:∀(listed:Array Bool)(m:List fE)(γ:Nat->Value)(a:Act)(w:World),afH Θ Γ w0 M T st R ops t0 listed m γ a w->
  (∀i,i<t0->listed.getD i false=true)->wpList P ops Q (ops.toList.drop t0) a w:=by
  intro listed m γ a w I A;have hR:=I.rel;have hK:K m:=by refine(ZN m (by rw[I.way.len];omega) λi o x D Z=>?_).1 I.way.len;obtain⟨E,O⟩:=(hget i o).1 D;exact I.ok i o x O Z (A i E)
  have hsame:after (dn R.D st) m (λi=>listed.getD i false)=after (dn R.D st) m λ_=>true:=by
   unfold after;have:∀(l:List fE)(j:Nat),j+l.length<=t0->pick l j (λi=>listed.getD i false)=pick l j λ_=>true:=by
    intro l
    induction l with
    |nil=>intros;rfl
    |cons y l ih=>
     grind [pick]
   rw[this m 0 (by rw[I.way.len];omega)]
  rw[hsame]at hR;exact hend m γ a w hK I.way.len hR
 have step:∀(listed:Array Bool)(m:List fE)(γ:Nat->Value)(a:Act)(w:World),afH Θ Γ w0 M T st R ops t0 listed m γ a w->∀(i:Nat)(o:Oper),ops[i]? =some o->i<t0->listed.getD i false=false->
  (∀j,((masks ops.toList []).getD i 0).testBit j=true->listed.getD j false=true)->∀(K':Act->World->Prop),
  (∀s γ' a' w',afH Θ Γ w0 M T st R ops t0 (listed.setIfInBounds i true) s γ' a' w'->K' a' w')->wpOp P ops Q i K' a w:=by
  intro listed m γ a w I i o ho hit hil X K' hK';obtain⟨W,hsz,htl,hcl,hok,hR⟩:=I;have hen:Enabled Θ Γ R (dn R.D st) m i o:=by
   obtain⟨ext,g1,g2,g3⟩:=fill hE.toEnvB (R:=R) (base:=dn R.D st) (front:=ops.toList.take t0) (path:=m) (L:=λi=>listed.getD i false)
    (λext hc o' ho'=>(ZN ext (by
      grind) hc).2 o' ho')
    (λj o' x ho' Z hL=>hok j o' x ((hget j o').1 ho').2 Z hL) (by rw[W.len,anS]) (λj k hL u=>hcl j k hL ny) i lu
   have:=(ZN ext lu g2).2 o ((hget _ o).2 ⟨lu,ny⟩);rw[g1]at this;refine this.agree λj hj=>?_
   grind [uJ]
  have U:∀j,(listed.setIfInBounds i true).getD j false=(if j=i then true else listed.getD j false):=by
   intro j;split
   .next e=>subst e;simp[Array.getD,show j<listed.size from lu]
   .next e=>exact getD_set_ne false (aJB e)
  refine azA hE (L:=λi=>listed.getD i false) (L':=λj=>(listed.setIfInBounds i true).getD j false) W ht0 hit hRn hDn hgd hcmp hEi hA ho hen hok (λj k hL u=>hcl j k hL ny) (λj hj=>X j ny) hil
   ny (λj hj=>ny) hR ?_
  intro x γ' a' w' ⟨y,B,hxy⟩ Z hR';refine hK' (m.set i x) γ' a' w' ⟨W.set B hxy,by simpa using hsz,?_,?_,?_,hR'⟩
  · grind
  .intro j k hj u;rw[U]at hj ⊢
   grind
  .intro j o' z ho' hz hL;obtain⟨aG3,_⟩:=aHN.1 B;by_cases e:j=i
   · grind
   .rw[aI5 (aJB e)]at hz;rw[U,if_neg e]at hL;refine(hok j o' z ho' hz hL).agree λk u=>?_
    grind [List.getElem?_set_ne]
 have pend:∀(F:List (Nat×Oper))(listed:Array Bool)(m:List fE)(γ:Nat->Value)(a:Act)(w:World),afH Θ Γ w0 M T st R ops t0 listed m γ a w->
  (∀x∈F,ops[x.1]? =some x.2/\x.1<t0)->F.Pairwise (λx y=>x.1<y.1)->(∀i,i<t0->(listed.getD i false=true↔∀x∈F,x.1≠i))->
  QE P ops Q (Q .normal) (F.map (·.2)++ops.toList.drop t0) a w:=by
  intro F
  induction F with
  |nil=>
   intro listed m γ a w I _ _ hL;rw[List.map_nil,aIG,ahu]
   grind
  |cons x F ih=>
   intro listed m γ a w I hF C hL;obtain⟨hx1,hx2⟩:=hF x aHJ;have hpx:=(aIl.1 C).1;have hun:listed.getD x.1 false=false:=by
    grind
   refine(wpOp_step hx1).1 (step listed m γ a w I x.1 x.2 hx1 hx2 hun (λj hj=>?_) _ λs γ' a' w' I'=>?_)
   · grind [uJ]
   .refine ih _ s γ' a' w' I' (λy B=>hF y (aHC _ B)) (aIl.1 C).2 λi D=>?_;have hxs:x.1<listed.size:=by rw[I.size];exact(aHz.1 hx1).1
    by_cases e:i=x.1
    .subst e;refine⟨λ_ y B=>by have:=hpx y B;omega,λ_=>by simp[Array.getD,hxs]⟩
    .rw[getD_set_ne false (aJB e),hL i D];refine⟨λh y B=>h y (aHC _ B),λh y B=>?_⟩;rcases aHH.1 B with rfl|B
     .exactλe'=>e e'.symm
     .exact h y B
 have late:∀(r:Nat)(listed:Array Bool)(m:List fE)(γ:Nat->Value)(a:Act)(w:World),afH Θ Γ w0 M T st R ops t0 listed m γ a w->MN (λi=>listed.getD i false) ops.size<=r->
  (∀i,i<t0->¬S i->listed.getD i false=true)->wpAny P .any ops Q r listed a w:=by
  intro r listed m γ a w I hf hd;have hcount:=asQ (λi=>listed.getD i false) I.tail ops.size ht0;have Y:=akZ (λi=>listed.getD i false) t0;have t:∀x,x∈((List.range t0).filter λi=>!(listed.getD i false)).map (λi=>(i,(ops[i]?).getD default))↔∃i,i<t0/\listed.getD i false=false/\(i,(ops[i]?).getD default)=x:=by intro x;simp only[aIo,aIT,aIL,aJh,and_assoc]
  have aCx:∀i,i<t0->ops[i]? =some ((ops[i]?).getD default):=λi D=>by have:ops[i]? =some (ops[i]' lu):=vk;rw[this];rfl
  have aAU:(((List.range t0).filter λi=>!(listed.getD i false)).map (λi=>(i,(ops[i]?).getD default))).Pairwise (λx y=>x.1<y.1):=by rw[aJi];exact(List.pairwise_lt_range (n:=t0)).filter _
  refine azB hQ hO hfl hS hlt r (((List.range t0).filter λi=>!(listed.getD i false)).map (λi=>(i,(ops[i]?).getD default))) (ops.toList.drop t0) t0 listed a w (aHv _) ht0 (λj=>vk) I.size ?_ aAU ?_ I.shut ?_ ?_
  .intro x Z;obtain⟨i,E,O,rfl⟩:=(t x).1 Z;refine⟨aCx i E,aIj λhno=>?_⟩;have:=hd i E hno;rw[O]at this;cases this
  .intro i D;refine⟨λh=>⟨?_,λx Z e=>?_⟩,λ⟨E,O⟩=>?_⟩
   .rcases aHU i t0 with h'|h'
    .exact h'
    .rw[I.tail i h']at h;cases h
   .obtain⟨j,_,O,rfl⟩:=(t x).1 Z;subst e;rw[O]at h;cases h
   .cases J:listed.getD i false with
    |true=>rfl
    |false=>exact(O _ ((t _).2 ⟨i,E,J,rfl⟩) rfl).elim
  .rw[aHL,Y];omega
  .refine pend _ listed m γ a w I (λx Z=>?_) aAU λi D=>⟨λh x Z e=>?_,λh=>?_⟩
   .obtain⟨i,E,_,rfl⟩:=(t x).1 Z;exact⟨aCx i E,E⟩
   .obtain⟨j,_,O,rfl⟩:=(t x).1 Z;subst e;rw[O]at h;cases h
   .cases J:listed.getD i false with
    |true=>rfl
    |false=>exact(h _ ((t _).2 ⟨i,D,J,rfl⟩) rfl).elim
 intro r
 induction r with
 |zero=>
  intro listed m γ a w I hf;have hall:∀i,i<ops.size->listed.getD i false=true:=asG (L:=λi=>listed.getD i false) ops.size lu;exact late 0 listed m γ a w I hf λi D _=>hall i lu
 |succ r ih=>
  intro listed m γ a w I hf;by_cases A:∀i,i<t0->¬S i->listed.getD i false=true
  .exact late (r+1) listed m γ a w I hf A
  .obtain⟨W,hsz,htl,hcl,hok,hR⟩:=id I;have hex:∃i,i<t0/\¬S i/\listed.getD i false=false:=by
    refine aIj λhno=>A λi D H=>?_;cases hl:listed.getD i false with
    |true=>rfl
    |false=>exact(hno ⟨i,D,H,hl⟩).elim
   obtain⟨i1,hi1,hS1,hl1⟩:=hex;obtain⟨i0,hi0,hl0,hmin⟩:=least (p:=λi=>listed.getD i false=false) t0 ⟨i1,hi1,hl1⟩;have aya:i0∈Region.ready .any ops listed:=by
    have N:i0<ops.size:=lu;refine Ik.2 ⟨ops[i0],by simp[N],by rw[VZ lu];exact hl0,λe he J=>?_⟩;have hoi:ops.toList[i0]? =some ops[i0]:=by simp[N]
    have awT:=ap1 hoi he J;have aCv:e.on<i0:=by
     rcases aHU e.on i0 with h|h
     .exact h
     .rw[uJ (hlt i0 ops[i0] (by simp[N])) h]at awT;cases awT
    cases hl:listed.getD e.on false with
    |true=>rfl
    |false=>exact(hmin e.on aCv hl).elim
   refine⟨λh=>(by rw[h]at aya;cases aya),λi D=>?_⟩;obtain⟨o,ho,H,hall⟩:=Ik.1 D;obtain⟨N,_⟩:=aHz.1 ho;have hil:listed.getD i false=false:=by rw[← VZ lu];exact H
   have X:=adI hcl ho D;have hit:i<t0:=by
    rcases aHU i t0 with h|h
    .exact h
    .have ho1:ops[i1]? =some (ops[i1]' lu):=vk;rcases hfl i o i1 _ ho ho1 lu (.inl h)with J|J
     .have:=X i1 J;rw[hl1]at this;cases this
     .exact(hS1 J.1).elim
   refine step listed m γ a w I i o ho hit hil X _ λs γ' a' w' I'=>ih _ s γ' a' w' I' ?_;have U:∀j,(listed.setIfInBounds i true).getD j false=(if j=i then true else listed.getD j false):=by
    intro j;split
    .next e=>subst e;simp[Array.getD,show j<listed.size from lu]
    .next e=>exact getD_set_ne false (aJB e)
   have:=avq (L:=λi=>listed.getD i false) (L':=λj=>(listed.setIfInBounds i true).getD j false) (i:=i) hil (by simp only[U,if_true]) (λj hj=>by simp only[U,if_neg hj]) ops.size N;omega
theorem ahw{t0:Nat}(h:QF t0 ((masks ops.toList []).drop t0)=true)(F:ops[i]? =some o)(D:t0<=i):(masks ops.toList []).getD i 0+1=2 ^ i:=by
 have b:(masks ops.toList []).length=ops.size:=by rw[adM];simp
 have d:((masks ops.toList []).drop t0)[i-t0]? =some ((masks ops.toList []).getD i 0):=by
  grind
 grind [ahv]
theorem axQ{G:lT}(hE:vM P G Θ Γ w0 M)(l:P.follows .mixedOrders=true){own:Nat->Bool}{U:List Nat}{id:Nat}{K:St->Prop}{Q:Exit->Act->World->Prop}(h:Rel w0 M T γ st a w)
 (W:VT Θ Γ own U ops.toList K st) (H:∀s γ' u w',K s->Rel w0 M T γ' s u w'->Q .normal u w'):(Code.region id ops true).wp P Q a w:=by
 unfold VT at W;split at W
 case h_2=>exact W.elim
 next J=>
 rw[aHy,aHy,aHy,aHy]at J;obtain⟨hnd,hlt,k,N,t⟩:=J;rw[aHy]at t;obtain⟨t,aF8⟩:=t;have ht0:front ops.toList<=ops.size:=by grind [azC]
 have X:(ops.toList.take (front ops.toList)).length=front ops.toList:=KW;have ZN:=λ(ext:List fE)(hle:ext.length<=front ops.toList)(hc:aiy Θ Γ (uK st.n own Γ U ops.toList) (dn (uK st.n own Γ U ops.toList).D st) (ops.toList.take (front ops.toList)) ext)=>
  ahn (ops.toList.take (front ops.toList)) [] [] ext rfl lu W (by simpa using hc)
 simp only[aIG,aHG,aIn,X]at ZN;have I:∃ext:List fE,ext.length=front ops.toList/\aiy Θ Γ (uK st.n own Γ U ops.toList) (dn (uK st.n own Γ U ops.toList).D st) (ops.toList.take (front ops.toList)) ext:=by
  obtain⟨ext,g1,g2,_⟩:=fill hE.toEnvB (R:=uK st.n own Γ U ops.toList) (base:=dn (uK st.n own Γ U ops.toList).D st) (front:=ops.toList.take (front ops.toList)) (path:=List.replicate (front ops.toList) (skipped 0)) (L:=λ_=>false)
   (λext hc A ho'=>(ZN ext (by
     grind) hc).2 A ho') (λ_ _ _ _ _ h=>zH) (by simp[X]) (λ_ _ h=>zH) (front ops.toList) lu
  grind
 obtain⟨C,hl0,hc0⟩:=I;have aCz:∀i,i<front ops.toList->∃o d,ops[i]? =some o/\(ops.toList.take (front ops.toList))[i]? =some o/\yg st.n i o=some d/\(uK st.n own Γ U ops.toList).ms.getD i 0<2 ^ i:=by intro i D;have F:ops[i]? =some (ops[i]' lu):=vk;have ho2:(ops.toList.take (front ops.toList))[i]? =some (ops[i]' lu):=ny;have Z:C[i]? =some (C[i]' lu):=vk;obtain⟨E,O,_⟩:=hc0 i _ _ ho2 Z;exact⟨_,_,F,ho2,E,O⟩
 have m:∀(i:Nat)(o:Oper),(ops.toList.take (front ops.toList))[i]? =some o->∃d,yg st.n (0+i) o=some d:=by
  grind
 have hbound:∀i o,ops[i]? =some o->front ops.toList<=i->(masks ops.toList []).getD i 0<2 ^ i:=by
  intro i o F D;unfold Yq at k;split at k
  .next J=>have:=ahw (show QF _ ((masks ops.toList []).drop _)=true from J) F D;omega
  .exact(abP k (by simpa using F)).1 D
 have aDu:∃S:Nat->Prop,(∀i o j f,ops[i]? =some o->ops[j]? =some f->j<i->front ops.toList<=i\/(S i/\S j)->((masks ops.toList []).getD i 0).testBit j=true\/(S j/\passes f o=true))/\∀j,S j->j<front ops.toList:=by
  unfold Yq at k;split at k
  .next J=>
   refine⟨λ_=>False,λi o j f F _ Y D=>.inl ?_,λ_ h=>h.elim⟩;rcases D with D|D
   .have E:=ahw (show QF _ ((masks ops.toList []).drop _)=true from J) F D;have O:(masks ops.toList []).getD i 0=2 ^ i-1:=lu
    grind
   grind
  .refine⟨λj=>bn (ax8 (front ops.toList) (uK st.n own Γ U ops.toList).ms) j=true,λi o j f F q Y D=>?_,λj Y=>?_⟩
   .exact(abP k (by simpa using F)).2 (by simpa using q) Y D
   .have:=wQ.1 Y;exact aIL.1 (aIT.1 this).1
 obtain⟨S,aE1,hS⟩:=aDu
 let z:List fE:=(ops.toList.take (front ops.toList)).mapIdx λi o=>skipped ((yg st.n i o).getD 0)
 have r:∀(i:Nat)(x:fE),z[i]? =some x->∃o,(ops.toList.take (front ops.toList))[i]? =some o/\yg st.n (0+i) o=some x.d:=by
  grind [skipped]
 have W0:Way (uK st.n own Γ U ops.toList) ops (front ops.toList) z:=by
  refine⟨ny,λi o x F Z=>?_,λx Z=>?_,λi j x y Z B hxy=>?_,λi x Z=>?_⟩
  .obtain⟨A,E,O⟩:=r i x Z;obtain⟨D,_⟩:=aHN.1 E;rw[aIU lu]at E;have:ops[i]? =some A:=by simpa using E
   rw[F]at this;cases this;rw[aIn]at O;exact O
  .obtain⟨i,D⟩:=aJq Z;obtain⟨A,E,O⟩:=r i x D;exact wQ.2 (akR _ 0 i E O)
  .obtain⟨o1,E,O⟩:=r i x Z;obtain⟨o2,h3,h4⟩:=r j y B;have g1:=SB m i o1 x.d E O;have g2:=SB m j o2 y.d h3 h4;rw[← hxy]at g2;exact akY hnd i j x.d g1 g2
  .obtain⟨o1,E,O⟩:=r i x Z;have:=ap5 _ 0 i x.d hnd (SB m i o1 x.d E O)
   grind
 refine Code.wp_mono (Q:=λe u w'=>match e with|.normal=>∃s γ',K s/\Rel w0 M T γ' s u w'|_=>False) (λe u w' he=>?_) ?_
 · grind
 refine wp_region_any l ?_;refine ax9 (w0:=w0) (M:=M) (T:=T) hE (λ_ _ _ h=>h) (λ⟨_,_,h⟩=>h) (R:=uK st.n own Γ U ops.toList) (t0:=front ops.toList) ht0 rfl rfl ?_ (λi o g b F _ hg=>by
  grind [aq0]) (λe he=>aHS.1 N e he) ?_ (auM t) ZN aE1 hS ?_ ?_ ops.size _ z γ _ _
  ⟨W0,vk,?_,?_,?_,?_⟩ ?_
 .intro i o d F D hd;exact asO hlt (i:=i) ny hd
 .intro j A ho' Y he;have:=akU (Γ:=Γ) (ops.toList.take (front ops.toList)) 0 j A ny he;rw[aIn]at this;exact this
 .intro i o F;rcases aHU i (front ops.toList)with D|D
  .obtain⟨_,_,_,_,_,h⟩:=aCz i D;exact h
  grind
 .intro path γ' u w' hK _ hR;have aGN:Rel w0 M T γ' (aob own (ops.toList.take (front ops.toList)) (after (dn (uK st.n own Γ U ops.toList).D st) path λ_=>true)) u w':=by
   unfold aob;split
   .exact hR
   .exact hR.freeze _
  grind [RZ]
 .intro i _;simp[Array.getD]
 .intro i j D;exfalso;simp[Array.getD]at D
 .intro j o x _ _ D;exfalso;simp[Array.getD]at D
 .have:=(h.drew (w.drawn+1))|>λh=>azx h (uK st.n own Γ U ops.toList).D;rw[awO (λi=>by simp[Array.getD])];exact this
 .have:∀n,MN (λi=>(Array.replicate ops.size false).getD i false) n<=n:=by
   intro n
   induction n with
   |zero=>exact aHv _
   |succ n ih=>grind [MN]
  exact this _
end Go.Fw
