import Derived.Test.YtdmilcleobbphaaGreatFwB
namespace Go.Fw
open Go
variable {P:Program} {w0:World} {M:Nat->Prop} {T:Ext} {γ γ':Nat->Value} {st:St} {a:Act} {w w':World} {Θ:mD} {Γ:nI}
structure iG where
 d:Nat
 v:AV
 u:List (Nat×bD)
 δ:List (Nat×bD)
 k:List Nat
def LZ(b:List Nat):List Edge->Nat
 |[]=>0
 |e::r=>match Region.binds .any e with
  |true=>(2 ^ e.on|||b.getD e.on 0)|||LZ b r
  |false=>LZ b r
def masks:List Oper->List Nat->List Nat
 |[],acc=>acc
 |o::r,acc=>masks r (acc++[LZ acc o.after.toList])
def pick:List iG->Nat->(Nat->Bool)->List iG
 |[],_,_=>[]
 |x::r,j,m=>match m j with|true=>x::pick r (j+1) m|false=>pick r (j+1) m
def F7:List iG->Nat->AV->AV
 |[],_,b=>b
 |x::r,t,b=>match Nat.beq t x.d with|true=>x.v|false=>F7 r t b
def lookO:List iG->Nat->Option bD->Option bD
 |[],_,b=>b
 |x::r,o,b=>match look x.δ o with|some y=>some y|none=>lookO r o b
def yR:List iG->Nat->Option bD
 |[],_=>none
 |x::r,o=>match yR r o with|some y=>some y|none=>look x.u o
def tK(base:St)(l:List iG):St:=
 {n:=base.n,tmps:=λt=>F7 l t (base.tmps t),ak:=λo=>match yR l o with|some y=>some y|none=>lookO l o (base.ak o)}
def xX:List iG->List Nat
 |[]=>[]
 |x::r=>x.k++xX r
def Bl(l:List Nat)(st:St):St:=match l with|[]=>st|l=>st.kill (cZ l)
def after(base:St)(path:List iG)(m:Nat->Bool):St:=Bl (xX (pick path 0 m)) (tK base (pick path 0 m))
def Cell.touch(S:Nat->Bool):Cell->Bool
 |.ref o=>S o
 |_=>false
def SV.touch(S:Nat->Bool):SV->Bool
 |.one c=>c.touch S
 |.agg cs=>cs.any (Cell.touch S)
def AV.touch(S:Nat->Bool):AV->Bool
 |.undef=>false
 |.sv v=>v.touch S
 |.tJ vs=>vs.any (SV.touch S)
 |.aZ o _=>S o
 |.uG o _ _=>S o
 |.win o _ _=>S o
 |.xH _ _ _ _=>false
 |.cO A _=>A.any (Cell.touch S)
 |.fn _ caps=>caps.any λA=>A.any (Cell.touch S)
def bD.touch(S:Nat->Bool):bD->Bool
 |.var cs=>cs.any (Cell.touch S)
 |.arr _ _ _ _=>false
def St.aqG(st:St)(L:List Nat):St:=match L with
 |[]=>st
 |L=>{n:=st.n,tmps:=λt=>match (st.tmps t).touch (cZ L)with|true=>.undef|false=>st.tmps t,
      ak:=λo=>match cZ L o with|true=>none|false=>match st.ak o with|some x=>(match x.touch (cZ L)with|true=>none|false=>some x)|none=>none}
def auw(b:List Nat)(i:Nat):List (Nat×Nat)->List Nat
 |[]=>[]
 |(e,q)::r=>match Nat.beq e i||((b.getD i 0).testBit e||(b.getD e 0).testBit i)with|true=>auw b i r|false=>q::auw b i r
def UQ:List (Nat×Nat)->Nat->Nat->Bool
 |[],_,_=>false
 |(e,q)::r,i,o=>match Nat.beq e i&&Nat.beq q o with|true=>true|false=>UQ r i o
def akX:Op->Bool
 |.call {callee:=.builtin .append,.. }=>true
 |_=>false
def G5:Op->Bool
 |.store _ _ _=>true
 |_=>false
def CY(n i:Nat)(o:Oper):Option Nat:=match o.dst with
 |some d=>some d
 |none=>match G5 o.op with|true=>some (n+i)|false=>none
def dstsOf(n:Nat):Nat->List Oper->List Nat
 |_,[]=>[]
 |i,o::r=>match CY n i o with|some d=>d::dstsOf n (i+1) r|none=>dstsOf n (i+1) r
def nodup:List Nat->Bool
 |[]=>true
 |x::r=>!(cZ r x)&&nodup r
def fE(D:List Nat)(st:St):St:=st.kill λo=>cZ D (o / 64)
def Ny(d:Nat)(δ:List (Nat×bD)):Bool:=δ.all λx=>Nat.beq (x.1 / 64) d
def St.hide(st:St)(U:List Nat):St:={st with ak:=λo=>match cZ U o with|true=>none|false=>st.ak o}
def I4(Γ:nI)(o:Op):Bool:=match o with
 |.call {callee:=.value (.func f),.. }=>match Γ f with|some (.eff _ _)=>true|_=>false
 |.store _ _ _=>true
 |_=>false
def acD(Γ:nI):Nat->List Oper->List Nat
 |_,[]=>[]
 |i,o::r=>match I4 Γ o.op with|true=>i::acD Γ (i+1) r|false=>acD Γ (i+1) r
def SC(b:List Nat)(E:List Nat)(i:Nat):Bool:=E.all λe=>Nat.beq e i||((b.getD i 0).testBit e||(b.getD e 0).testBit i)
def CZ(st:St)(m:Mode)(x:AV):Option (Arg×Option Nat):=
 match m with
 |.val=>match wI st [x]with
  |some [a]=>some (a,none)
  |_=>none
 |m=>Ac st m x
def G6(st:St):List Mode->List AV->Option (List Arg×List (Option Nat))
 |_,[]=>some ([],[])
 |ms,x::xs=>match CZ st (ms.headD .val) x,G6 st ms.tail xs with
  |some (a,o),some (as,os)=>some (a::as,o::os)
  |_,_=>none
def Arg.aLj:Arg->Bool
 |.own _ _ _=>false
 |_=>true
def acE(Γ:nI)(st:St):Op->Option (Prop×YI×(List (Option Nat)×Bool))
 |.call {callee:=.value (.func f),args,.. }=>match Γ f with
  |some (.eff ms con)=>match G6 st ms (handed st args.toList [])with
   |some (vs,os)=>match RS (OT ms (handed st args.toList []))||vs.all Arg.aLj with
    |true=>match con vs with
     |some (p,ρ)=>some (p,ρ,(os,!(RS (OT ms (handed st args.toList [])))))
     |none=>none
    |false=>none
   |none=>none
  |_=>none
 |_=>none
def YV(Θ:mD)(st:St):Op->Option (List (Nat×bD))
 |.store t p x=>match st.ev x,Θ t,st.ev p with
  |.sv v,some ti,.aZ o off=>match Nat.beq v.cells.length ti.cells.len,st.ak o with
   |true,some (.var cs)=>match Nat.ble (off+v.cells.length) cs.length with
    |true=>some [(o,.var (splice cs off v.cells))]
    |false=>none
   |_,_=>none
  |_,_,_=>none
 |_=>none
def aDR(D U:List Nat)(b:List (Nat×bD)):Bool:=b.all λy=>cZ U y.1&&!(cZ D (y.1 / 64))
def aiq:List (Option Nat)->List Eff->Bool
 |[],_=>true
 |none::os,bP=>aiq os bP.tail
 |some _::os,bP=>match bP.head? with|some (.var _)=>aiq os bP.tail|_=>false
def SG(D U:List Nat)(d:Nat)(st:St)(os:List (Option Nat)×Bool)(out:Out)(b:List Eff):Option (AV×List (Nat×bD)×List (Nat×bD)):=
 match GU os.1&&(VT b (out.take (d*64+1)).2&&(aiq os.1 b&&(Ny d (out.take (d*64+1)).2&&(!os.2||(out.made&&YP b))))),vN st os.1 b with
 |true,some υ=>match υ.all λy=>cZ U y.1&&!(cZ D (y.1 / 64))with
  |true=>some ((out.take (d*64+1)).1,υ,(out.take (d*64+1)).2)
  |false=>none
 |_,_=>none
structure Reg where
 D:List Nat
 U:List Nat
 ms:List Nat
 E:List Nat
 A:List (Nat×Nat)
 n:Nat
 F:List Nat
def vF(F:List Nat)(x:iG):iG:=match cZ F x.d,x.v,x.u,x.δ with
 |true,.sv (.one (.ref q)),[],[(q',.arr e r l fr)]=>match Nat.beq q q' with
  |true=>⟨x.d,.sv (.one (.sl e r l fr)),[],[],x.k⟩
  |false=>x
 |_,_,_,_=>x
theorem xu(F:List Nat)(x:iG):(vF F x).d=x.d/\(vF F x).u=x.u/\(vF F x).k=x.k/\∀y∈(vF F x).δ,y∈x.δ:=by
 grind [vF]
def idxOf:List Nat->Nat->Nat->Option Nat
 |[],_,_=>none
 |x::r,t,j=>match Nat.beq t x with|true=>some j|false=>idxOf r t (j+1)
def aoh(R:Reg)(i t:Nat):Bool:=match idxOf R.D t 0 with
 |some j=>!(Nat.beq j i||((R.ms.getD i 0).testBit j||(R.ms.getD j 0).testBit i))
 |none=>false
def St.veil(st:St)(R:Reg)(i:Nat):St:={st with tmps:=λt=>match aoh R i t with|true=>.undef|false=>st.tmps t}
def viewAt(R:Reg)(base:St)(b:List iG)(i:Nat):St:=
 ((match SC R.ms R.E i with
 |true=>after base b (R.ms.getD i 0).testBit
 |false=>(after base b (R.ms.getD i 0).testBit).hide R.U).veil R i).aqG (auw R.ms i R.A)
def Yp(Θ:mD)(Γ:nI)(R:Reg)(base:St)(i:Nat)(o:Oper)(d:Nat)(b:List iG)(K:List iG->Prop):Prop:=
 match I4 Γ o.op with
 |true=>match G5 o.op with
  |true=>match YV Θ (viewAt R base b i) o.op with
   |some υ=>match aDR R.D R.U υ with
    |true=>K (b++[⟨d,.tJ [],υ,[],[]⟩])
    |false=>False
   |none=>False
  |false=>match acE Γ (viewAt R base b i) o.op with
   |some (p,ρ,os)=>p/\∀t,ρ.R t->match SG R.D R.U d (viewAt R base b i) os (ρ.out t) (ρ.bP t)with
    |some (v,υ,δ)=>K (b++[⟨d,v,υ,δ,[]⟩])
    |none=>False
   |none=>False
 |false=>match akX o.op with
  |true=>match OV Θ (viewAt R base b i) o.op with
   |some (p,q,x)=>match cZ R.D (q / 64)&&(!(Nat.beq (q / 64) d)&&UQ R.A i q)with
    |true=>p/\K (b++[vF R.F ⟨d,.sv (.one (.ref (d*64+1))),[],[(d*64+1,x)],[q]⟩])
    |false=>False
   |none=>False
  |false=>match calm Θ Γ d (viewAt R base b i) o.op with
   |some (p,v,δ)=>match Ny d δ,quiet (viewAt R base b i) o.op with
    |true,true=>K (b++[vF R.F ⟨d,v,[],δ,[]⟩])
    |true,false=>p/\K (b++[vF R.F ⟨d,v,[],δ,[]⟩])
    |false,_=>False
   |none=>False
def fix(g:Nat)(b:Bool)(d:List iG):List iG:=
 match d[g]? with
 |some x=>d.set g {x with v:=.sv (.one (.bool b))}
 |none=>d
def skipped(d:Nat):iG:=⟨d,.tJ [],[],[],[]⟩
def Ce(Θ:mD)(Γ:nI)(R:Reg)(base:St)(K:List iG->Prop):Nat->List Oper->List iG->Prop
 |_,[],acc=>K acc
 |i,o::r,acc=>match CY R.n i o,Nat.blt (R.ms.getD i 0) (2 ^ i)with
  |some d,true=>match o.guard with
   |none=>Yp Θ Γ R base i o d acc (Ce Θ Γ R base K (i+1) r)
   |some (g,b)=>match (R.ms.getD i 0).testBit g,acc[g]? with
    |true,some x=>match x.v with
     |.sv (.one (.bool c))=>cond c
      (match b with
        |true=>Yp Θ Γ R base i o d (fix g true acc) (Ce Θ Γ R base K (i+1) r)
        |false=>Ce Θ Γ R base K (i+1) r (fix g true acc++[skipped d]))
      (match b with
        |false=>Yp Θ Γ R base i o d (fix g false acc) (Ce Θ Γ R base K (i+1) r)
        |true=>Ce Θ Γ R base K (i+1) r (fix g false acc++[skipped d]))
     |.tJ _=>Ce Θ Γ R base K (i+1) r (acc++[skipped d])
     |_=>False
    |_,_=>False
  |_,_=>False
def Wanted(R:Reg)(path:List iG)(i:Nat)(o:Oper):Prop:=
 o.guard=none\/∃g b y,o.guard=some (g,b)/\(R.ms.getD i 0).testBit g=true/\path[g]? =some y/\y.v=.sv (.one (.bool b))
def aoi(R:Reg)(path:List iG)(i:Nat)(o:Oper):Prop:=
 ∃g b y,o.guard=some (g,b)/\(R.ms.getD i 0).testBit g=true/\path[g]? =some y/\((∃c,y.v=.sv (.one (.bool c))/\c≠b)\/∃I,y.v=.tJ I)
def Ae(Θ:mD)(Γ:nI)(R:Reg)(base:St)(path:List iG)(i:Nat)(o:Oper)(x:iG):Prop:=
 CY R.n i o=some x.d/\(R.ms.getD i 0)<2 ^ i/\
 ((Wanted R path i o/\
    ((I4 Γ o.op=false/\akX o.op=false/\∃p v e,calm Θ Γ x.d (viewAt R base path i) o.op=some (p,v,e)/\p/\Ny x.d e=true/\x=vF R.F ⟨x.d,v,[],e,[]⟩)\/
     (I4 Γ o.op=false/\akX o.op=true/\∃p q y,OV Θ (viewAt R base path i) o.op=some (p,q,y)/\p/\(cZ R.D (q / 64)=true/\q / 64≠x.d/\UQ R.A i q=true)/\
       x=vF R.F ⟨x.d,.sv (.one (.ref (x.d*64+1))),[],[(x.d*64+1,y)],[q]⟩)\/
     (I4 Γ o.op=true/\G5 o.op=true/\∃f,YV Θ (viewAt R base path i) o.op=some f/\aDR R.D R.U f=true/\x=⟨x.d,.tJ [],f,[],[]⟩)\/
     ((I4 Γ o.op=true/\G5 o.op=false)/\x.k=[]/\∃p b d t,acE Γ (viewAt R base path i) o.op=some (p,b,d)/\p/\b.R t/\
        (∀t,b.R t->∃r,SG R.D R.U x.d (viewAt R base path i) d (b.out t) (b.bP t)=some r)/\
        SG R.D R.U x.d (viewAt R base path i) d (b.out t) (b.bP t)=some (x.v,x.u,x.δ))))\/
  (aoi R path i o/\x=skipped x.d))
def Enabled(Θ:mD)(Γ:nI)(R:Reg)(base:St)(path:List iG)(i:Nat)(o:Oper):Prop:=
 ∃d,CY R.n i o=some d/\(R.ms.getD i 0)<2 ^ i/\
 ((Wanted R path i o/\
    ((I4 Γ o.op=false/\akX o.op=false/\∃p v f,calm Θ Γ d (viewAt R base path i) o.op=some (p,v,f)/\p/\Ny d f=true)\/
     (I4 Γ o.op=false/\akX o.op=true/\∃p q y,OV Θ (viewAt R base path i) o.op=some (p,q,y)/\p/\(cZ R.D (q / 64)=true/\q / 64≠d/\UQ R.A i q=true))\/
     (I4 Γ o.op=true/\G5 o.op=true/\∃g,YV Θ (viewAt R base path i) o.op=some g/\aDR R.D R.U g=true)\/
     ((I4 Γ o.op=true/\G5 o.op=false)/\∃p b e,acE Γ (viewAt R base path i) o.op=some (p,b,e)/\p/\
        ∀t,b.R t->∃r,SG R.D R.U d (viewAt R base path i) e (b.out t) (b.bP t)=some r)))\/
  aoi R path i o)
variable {x:iG}
theorem azC{g:Nat}{b:Bool}{d:List iG}(h:d[g]? =some x)(R:x.v=.sv (.one (.bool b))):fix g b d=d:=by
 unfold fix;rw[h];obtain⟨e,Z⟩:=aQC.1 h;refine aRx λi=>?_;by_cases D:i=g
 .cases x
  grind
 grind
theorem awH:∀(l:List iG)(j:Nat)(m:Nat->Bool),(∀i,j<=i->m i=false)->pick l j m=[]
 |[],_,_,_=>rfl
 |x::r,j,m,h=>by rw[pick,h j (aQp _)];exact awH r (j+1) m λi D=>h i fC
theorem aby(r:List iG)(m:Nat->Bool):∀(l:List iG)(j:Nat),pick (l++r) j m=pick l j m++pick r (j+l.length) m
 |[],j=>by simp[pick]
 |x::l,j=>by rw[aRv,pick,pick,aby r m l (j+1),aQz,show j+1+l.length=j+(l.length+1)from fC];cases m j<;>rfl
theorem XO{m:Nat->Bool}:∀(l b:List iG)(j:Nat),(∀i,m (j+i)=true->l[i]? =b[i]?)->pick l j m=pick b j m
 |[],[],_,_=>rfl
 |[],y::r,j,h=>by
  cases k:m j with
  |true=>have:=h 0 (by simpa using k);simp at this
  |false=>
   rw[pick,pick,k];exact XO [] r (j+1) λi D=>by have:=h (i+1) (by rw[show j+(i+1)=j+1+i from fC];exact D);simpa using this
 |x::l,[],j,h=>by
  cases k:m j with
  |true=>have:=h 0 (by simpa using k);simp at this
  |false=>
   rw[pick,pick,k];exact XO l [] (j+1) λi D=>by have:=h (i+1) (by rw[show j+(i+1)=j+1+i from fC];exact D);simpa using this
 |x::l,y::r,j,h=>by
  have d:=XO l r (j+1) λi D=>by have:=h (i+1) (by rw[show j+(i+1)=j+1+i from fC];exact D);grind
  rw[pick,pick];cases k:m j with
  |true=>have:=h 0 (by simpa using k);grind
  |false=>exact d
theorem wK{m:Nat->Bool}{x:iG}:∀(l:List iG)(j:Nat),x∈pick l j m↔∃i,m (j+i)=true/\l[i]? =some x
 |[],j=>by simp[pick]
 |y::l,j=>by
  have b:=wK (m:=m) (x:=x) l (j+1);rw[pick];cases k:m j with
  |true=>
   simp only[aQt,b];constructor
   .rintro(rfl|⟨i,h1,h2⟩)
    .exact⟨0,by simpa using k,rfl⟩
    .exact⟨i+1,jv,by simpa using h2⟩
   grind
  |false=>
   simp only[b];constructor
   .rintro⟨i,h1,h2⟩;exact⟨i+1,jv,by simpa using h2⟩
   grind
variable {i:Nat}
theorem yS{m j:Nat}(h:m<2 ^ i)(b:i<=j):m.testBit j=false:=
 Nat.testBit_lt_two_pow (aQO h (aRE jI b))
variable {R:Reg}{base:St}{l l':List iG}
theorem YW(h:∀j,(R.ms.getD i 0).testBit j=true->l[j]? =l'[j]?):viewAt R base l i=viewAt R base l' i:=by
 grind [viewAt,after,XO]
variable {o:Oper}
theorem Ae.agree(h:∀j,(R.ms.getD i 0).testBit j=true->l[j]? =l'[j]?)(hr:Ae Θ Γ R base l i o x):Ae Θ Γ R base l' i o x:=by
 obtain⟨C,O,K⟩:=hr;refine⟨C,O,?_⟩;rw[← YW h];refine K.imp (And.imp (Or.imp id ?_) id) (And.imp ?_ id)
 · grind
 .rintro⟨g,b,y,e1,e2,e3,e4⟩;exact⟨g,b,y,e1,e2,h g e2▸e3,e4⟩
theorem Enabled.agree(h:∀j,(R.ms.getD i 0).testBit j=true->l[j]? =l'[j]?)(hr:Enabled Θ Γ R base l i o):Enabled Θ Γ R base l' i o:=by
 obtain⟨d,C,O,K⟩:=hr;refine⟨d,C,O,?_⟩;rw[← YW h];refine K.imp (And.imp (Or.imp id ?_) id) ?_
 · grind
 .rintro⟨g,b,y,e1,e2,e3,e4⟩;exact⟨g,b,y,e1,e2,h g e2▸e3,e4⟩
theorem Bo{l:List Nat}{x:Nat}:cZ l x=true↔x∈l:=by
 induction l with
 |nil=>simp[cZ]
 |cons y l ih=>
  rw[cZ,aQt];cases U:Nat.beq x y with
  |true=>simp_all
  |false=>
   simp only[ih];constructor
   .exact .inr
   .rintro(rfl|h)
    .simp at U
    .exact h
theorem aqH{n:Nat}{o:Oper}{d:Nat}:∀(l:List Oper)(i j:Nat),l[j]? =some o->CY n (i+j) o=some d->d∈dstsOf n i l
 |[],_,_,ho,_=>by simp at ho
 |x::r,i,0,ho,hd=>by
  grind [dstsOf]
 |x::r,i,j+1,ho,hd=>by
  have:=aqH r (i+1) j (by simpa using ho) (by rw[show i+1+j=i+(j+1)from fC];exact hd);rw[dstsOf];split
  .exact aQo _ this
  .exact this
def aoj(Θ:mD)(Γ:nI)(R:Reg)(base:St)(ops:List Oper)(path:List iG):Prop:=
 ∀i o x,ops[i]? =some o->path[i]? =some x->Ae Θ Γ R base path i o x
theorem aDS{b ext:List iG}{j:Nat}(h:j<b.length):(b++ext)[j]? =b[j]? :=aRj h
theorem amU{R:Reg}{base:St}{K:List iG->Prop}:∀(n f:List Oper)(m ext:List iG),m.length=f.length->ext.length<=n.length->
 Ce Θ Γ R base K f.length n m->aoj Θ Γ R base (f++n) (m++ext)->
 (ext.length=n.length->K (m++ext))/\∀o,n[ext.length]? =some o->Enabled Θ Γ R base (m++ext) (f.length+ext.length) o
 |[],f,m,ext,hl,hle,hr,hc=>by
  simp_all [Ce]
 |o::n,f,m,ext,hl,hle,hr,hc=>by
  rw[Ce]at hr;split at hr
  case h_2=>exact hr.elim
  next d e k=>
  have S:R.ms.getD f.length 0<2 ^ f.length:=x9;have N:(Wanted R m f.length o/\Yp Θ Γ R base f.length o d m (Ce Θ Γ R base K (f.length+1) n))\/
   (aoi R m f.length o/\Ce Θ Γ R base K (f.length+1) n (m++[skipped d])):=by
   split at hr
   .next hg=>exact .inl ⟨.inl hg,hr⟩
   .next g b hg=>
    split at hr
    .next x hbit Z=>
     split at hr
     .next c hc'=>
      cases c
      .simp only[cond_false,azC Z hc']at hr;cases b
       .exact .inl ⟨.inr ⟨g,false,x,hg,hbit,Z,hc'⟩,hr⟩
       .exact .inr ⟨⟨g,true,x,hg,hbit,Z,.inl ⟨false,hc',ni⟩⟩,hr⟩
      .simp only[cond_true,azC Z hc']at hr;cases b
       .exact .inr ⟨⟨g,false,x,hg,hbit,Z,.inl ⟨true,hc',ni⟩⟩,hr⟩
       .exact .inl ⟨.inr ⟨g,true,x,hg,hbit,Z,hc'⟩,hr⟩
     .next vs hc'=>exact .inr ⟨⟨g,b,x,hg,hbit,Z,.inr ⟨vs,hc'⟩⟩,hr⟩
     grind
    grind
  have A:∀ext:List iG,∀j,(R.ms.getD f.length 0).testBit j=true->m[j]? =(m++ext)[j]? :=by
   grind [yS]
  cases ext with
  |nil=>
   refine⟨λh=>yj,λX E=>?_⟩;have:X=o:=jv;subst this;rw[aQY];simp only[aQZ,aSv];refine⟨d,e,S,?_⟩;rcases N with⟨z,Y⟩|⟨z,_⟩
   .refine .inl ⟨z,?_⟩;unfold Yp at Y;split at Y
    · grind
    grind [Nat.beq_refl,aeo]
   grind
  |cons x ext=>
   have Z:Ae Θ Γ R base (m++x::ext) f.length o x:=by
    refine hc f.length o x ?_ ?_
    · grind
    grind
   obtain⟨e1,_,C⟩:=Z;have U:x.d=d:=jv;have Q:viewAt R base m f.length=viewAt R base (m++x::ext) f.length:=YW (A _);have u:Ce Θ Γ R base K (f.length+1) n (m++[x]):=by
    rcases N with⟨z,Y⟩|⟨z,Y⟩
    .rcases C with⟨_,C⟩|⟨⟨g,b,y,f1,f2,f3,f4⟩,_⟩
     .rw[← Q,U]at C;unfold Yp at Y;rcases C with⟨D,r,p,v,δ,s,_,H,L⟩|⟨D,r,p,q,y,happ,_,_,L⟩|⟨D,I,υ,hυ,B,L⟩|⟨⟨D,I⟩,hk,p,ρ,os,t,hrel,_,ht,_,F⟩
      .rw[D,r]at Y;simp only[s]at Y;split at Y
       · grind
       · grind
       grind
      · grind
      · grind
      .rw[D,I]at Y;simp only[hrel]at Y;have O:=Y.2 t ht;simp only[F]at O;have ex:x=⟨d,x.v,x.u,x.δ,[]⟩:=by cases x;grind
       grind
     .exfalso;rw[← A _ g f2]at f3;rcases z with z|⟨g',b',y',k1,k2,k3,k4⟩
      · grind
      grind
    .rcases C with⟨J,_⟩|⟨_,f1⟩
     .exfalso;obtain⟨g,b,y,k1,k2,k3,k4⟩:=z;rcases J with J|⟨g',b',y',l1,l2,l3,l4⟩
      · grind
      grind
     grind
   have W:=amU n (f++[o]) (m++[x]) ext (by simp[hl]) (by simpa using hle) (by simpa using u) (by simpa using hc);simp only[aQL,List.singleton_append,aQu,aQz,aQZ]at W;refine⟨λh=>W.1 oQ,λX E=>?_⟩;have:=W.2 X (by simpa using E);rw[show f.length+(0+1)+ext.length=f.length+(ext.length+1)from fC]at this;omega
theorem PK(b:List Nat)(j:Nat):∀(d:List Edge),(LZ b d).testBit j=true↔∃e∈d,Region.binds .any e=true/\(e.on=j\/(b.getD e.on 0).testBit j=true)
 |[]=>by simp[LZ]
 |e::r=>by
  rw[LZ];cases U:Region.binds .any e with
  |false=>
   simp only[PK b j r,aQt];constructor
   .rintro⟨e',h1,h2⟩;exact⟨e',.inr h1,h2⟩
   .rintro⟨e',rfl|h1,h2⟩
    .rw[U]at h2;cases h2.1
    .exact⟨e',h1,h2⟩
  |true=>
   simp only[Nat.testBit_or,aRo,PK b j r,aQt,Nat.testBit_two_pow,aQF];constructor
   .rintro((h|h)|⟨e',h1,h2⟩)
    .exact⟨e,.inl rfl,U,.inl h⟩
    .exact⟨e,.inl rfl,U,.inr h⟩
    .exact⟨e',.inr h1,h2⟩
   .rintro⟨e',rfl|h1,h2⟩
    .exact .inl h2.2
    .exact .inr ⟨e',h1,h2⟩
theorem aex:∀(l:List Oper)(b:List Nat)(i:Nat),i<b.length->(masks l b).getD i 0=b.getD i 0
 |[],_,_,_=>rfl
 |o::r,b,i,h=>by rw[masks,aex r _ i ql];simp[aQJ,aRj h]
theorem aey:∀(l:List Oper)(b:List Nat)(i:Nat)(o:Oper),l[i]? =some o->∃d,(masks l b).getD (b.length+i) 0=LZ d o.after.toList/\
 (∀j,j<d.length->(masks l b).getD j 0=d.getD j 0)
 |[],_,_,_,h=>yj
 |o::r,b,0,o',h=>by
  refine⟨b,?_,λj e=>?_⟩
  · grind [masks,aex]
  grind [aex]
 |o::r,b,i+1,o',h=>by
  obtain⟨d,C,O⟩:=aey r (b++[LZ b o.after.toList]) i o' oQ
  grind [masks]
theorem awI{ops:List Oper}(z:ops[i]? =some o){e:Edge}(g:e∈o.after)(U:Region.binds .any e=true):((masks ops []).getD i 0).testBit e.on=true:=by
 obtain⟨b,C,_⟩:=aey ops [] i o z
 grind [PK]
theorem aFH{ops:List Oper}(z:ops[i]? =some o){j:Nat}(d:((masks ops []).getD i 0).testBit j=true):
 ∃e∈o.after,Region.binds .any e=true/\(e.on=j\/((masks ops []).getD e.on 0).testBit j=true):=by
 obtain⟨b,C,O⟩:=aey ops [] i o z
 grind [PK]
def QU(L:Nat->Bool):Nat->Nat
 |0=>0
 |n+1=>(match L n with|true=>0|false=>1)+QU L n
theorem awJ{L L':Nat->Bool}:∀(n:Nat),(∀i,i<n->L i=L' i)->QU L n=QU L' n
 |0,_=>rfl
 |n+1,h=>by rw[QU,QU,h n fC,awJ n λi D=>h i fC]
theorem aCO{L L':Nat->Bool}{i:Nat}(D:L i=false)(b:L' i=true)(h:∀j,j≠i->L' j=L j):∀(n:Nat),i<n->QU L' n+1=QU L n
 |0,hn=>fC
 |n+1,hn=>by
  rw[QU,QU];by_cases e:n=i
  · grind [awJ]
  .have:=aCO D b h n fC
   grind
theorem azD{L:Nat->Bool}:∀(n:Nat),QU L n=0->∀i,i<n->L i=true
 |0,_,i,hi=>fC
 |n+1,h,i,hi=>by
  rw[QU]at h;cases W:L n with
  |false=>grind
  |true=>
   by_cases e:i=n
   · grind
   .exact azD n fC i fC
theorem least{p:Nat->Prop}[DecidablePred p]:∀(n:Nat),(∃i,i<n/\p i)->∃i,i<n/\p i/\∀j,j<i->¬p j:=by
 intro n
 induction n using Nat.strongRecOn with
 |_ n ih=>
  rintro⟨i,hi,hp⟩;by_cases h:∃j,j<i/\p j
  · grind
  grind
structure Fits(D U:List Nat)(l:List iG):Prop where
 one:∀x∈l,∀y∈l,x.d=y.d->x=y
 mem:∀x∈l,cZ D x.d=true
 new:∀x∈l,Ny x.d x.δ=true
 upd:∀x∈l,∀o y,look x.u o=some y->cZ U o=true/\cZ D (o / 64)=false
theorem Bq{d:Nat}{δ:List (Nat×bD)}(h:Ny d δ=true){o:Nat}{y:bD}(W:look δ o=some y):o / 64=d:=
 aQq (aQA.1 h _ (Fv δ o y W))
theorem aqI{t:Nat}{b:AV}:∀(l:List iG),(∀x∈l,x.d≠t)->F7 l t b=b
 |[],_=>rfl
 |x::r,h=>by
  rw[F7];have:Nat.beq t x.d=false:=by
   cases U:Nat.beq t x.d with
   |false=>rfl
   |true=>exact(h x aQr (aQq U).symm).elim
  rw[this];exact aqI r λy F=>h y (aQo _ F)
theorem air{b:AV}{x:iG}:∀(l:List iG),x∈l->(∀y∈l,x.d=y.d->x=y)->F7 l x.d b=x.v
 |[],h,_=>o5
 |y::r,h,hu=>by
  rw[F7];cases U:Nat.beq x.d y.d with
  |true=>simp_all
  |false=>
   rcases aQt.1 h with rfl|h
   .simp at U
   .exact air r h λz d=>hu z (aQo _ d)
theorem XP{o:Nat}{b:Option bD}:∀(l:List iG),(∀x∈l,look x.δ o=none)->lookO l o b=b
 |[],_=>rfl
 |x::r,h=>by rw[lookO,h x aQr];exact XP r λy F=>h y (aQo _ F)
theorem awK{o:Nat}{b:Option bD}{x:iG}{z:bD}:∀(l:List iG),x∈l->look x.δ o=some z->(∀y∈l,∀d,look y.δ o=some d->x=y)->lookO l o b=some z
 |[],h,_,_=>o5
 |y::r,h,hz,hu=>by
  rw[lookO];cases F:look y.δ o with
  |some d=>have:=hu y aQr d F;subst this;rw[hz]at F;exact F.symm
  |none=>
   rcases aQt.1 h with rfl|h
   .rw[hz]at F;cases F
   .exact awK r h hz λw e=>hu w (aQo _ e)
theorem SH{o:Nat}:∀(l:List iG),(∀x∈l,look x.u o=none)->yR l o=none
 |[],_=>rfl
 |x::r,h=>by rw[yR,SH r λy F=>h y (aQo _ F)];exact h x aQr
theorem YX{o:Nat}(r:List iG):∀(l:List iG),yR (l++r) o=match yR r o with|some y=>some y|none=>yR l o
 |[]=>by grind [yR]
 |x::l=>by rw[aRv,yR,YX r l,yR];cases yR r o<;>rfl
theorem amV{o:Nat}{m m':Nat->Bool}:∀(l:List iG)(j:Nat),(∀i x,l[i]? =some x->x.u≠[]->m (j+i)=m' (j+i))->yR (pick l j m) o=yR (pick l j m') o
 |[],_,_=>rfl
 |x::r,j,h=>by
  have d:=amV (o:=o) (m:=m) (m':=m') r (j+1) (λi y D F=>by
   have:=h (i+1) y ZQ F
   grind)
  have e:=h 0 x rfl;rw[pick,pick];cases k:m j<;>cases b:m' j
  .exact d
  · grind [yR,look]
  · grind [yR,look]
  grind [yR]
theorem amW{x:iG}{t:Nat}{b:AV}(r:List iG):∀(l:List iG),(∀y∈l,y.d≠x.d)->F7 (l++x::r) t b=match Nat.beq t x.d with|true=>x.v|false=>F7 (l++r) t b
 |[],_=>by grind [F7]
 |y::l,h=>by
  rw[aRv,aRv,F7,amW r l λz e=>h z (aQo _ e),F7];cases U:Nat.beq t y.d with
  |false=>rfl
  |true=>
   have:Nat.beq t x.d=false:=by
    cases d:Nat.beq t x.d with
    |false=>rfl
    |true=>exact(h y aQr ((aQq U).symm.trans (aQq d))).elim
   rw[this]
theorem amX{x:iG}{o:Nat}{b:Option bD}(r:List iG):∀(l:List iG),(∀y∈l,∀z d,look y.δ o=some z->look x.δ o=some d->False)->
 lookO (l++x::r) o b=match look x.δ o with|some y=>some y|none=>lookO (l++r) o b
 |[],_=>by grind [lookO]
 |y::l,h=>by
  rw[aRv,aRv,lookO,amX r l λz e=>h z (aQo _ e),lookO];cases F:look y.δ o with
  |none=>rfl
  |some z=>
   cases Z:look x.δ o with
   |none=>rfl
   |some d=>exact(h y aQr z d F Z).elim
variable {D U:List Nat}
theorem aBP{r:List iG}(X:Fits D U (l++x::r))(e:∀y∈l++r,y.d≠x.d)(s:x.u≠[]->∀y∈r,y.u=[]):
 (((tK base (l++r)).adds x.u).adds x.δ).set x.d x.v=tK base (l++x::r):=by
 have Z:x∈l++x::r:=ni;have d:∀y∈l++r,y∈l++x::r:=λy F=>by
  grind
 have j:(((tK base (l++r)).adds x.u).adds x.δ).set x.d x.v={n:=base.n,tmps:=λt=>match Nat.beq t x.d with|true=>x.v|false=>F7 (l++r) t (base.tmps t),ak:=(((tK base (l++r)).adds x.u).adds x.δ).ak}:=by rw[akO,akO (tK base (l++r)) x.u];rfl
 rw[j];congr 1
 · grind [amW]
 · funext o
   rw[BL,BL];have k:=amX (x:=x) (o:=o) (b:=base.ak o) r l λy F z B u g=>e y (aQ0 _ F) ((Bq (X.new y (d y (aQ0 _ F))) u).symm.trans (Bq (X.new x Z) g));have m:yR (l++x::r) o=match look x.u o with|some y=>some y|none=>yR (l++r) o:=by
    rw[YX,YX,yR];by_cases f:x.u=[]
    · grind [look]
    .rw[SH r λy F=>by rw[s f y F];rfl]
   rw[k,m];cases h:look x.δ o with
   |none=>cases look x.u o<;>rfl
   |some z=>
    have q:cZ D (o / 64)=true:=by rw[Bq (X.new x Z) h];exact X.mem x Z
    have A:∀y∈l++x::r,look y.u o=none:=λy F=>by
     cases W:look y.u o with
     |none=>rfl
     |some w=>have:=(X.upd y F o w W).2;grind
    grind [SH]
theorem Bv{o:Nat}:∀(l:List iG),cZ (xX l) o=true↔∃x∈l,o∈x.k
 |[]=>by simp[xX,cZ]
 |x::r=>by
  rw[Bo,xX,aQM,← Bo (l:=xX r),Bv r];constructor
  .rintro(h|⟨y,F,h⟩)
   .exact⟨x,aQr,h⟩
   .exact⟨y,aQo _ F,h⟩
  .rintro⟨y,F,h⟩;rcases aQt.1 F with rfl|F
   .exact .inl h
   .exact .inr ⟨y,F,h⟩
variable {S:Nat->Bool}
theorem Cell.G7(h:∀o,S o=false):∀(c:Cell),c.kill S=c
 |.int _ _|.bool _|.str _|.nil|.sl _ _ _ _|.junk=>rfl
 |.ref o=>by grind [Cell.kill]
variable {S' S2:Nat->Bool}
theorem Cell.zq(h:∀o,S2 o=(S o||S' o)):∀(c:Cell),(c.kill S).kill S'=c.kill S2
 |.int _ _|.bool _|.str _|.nil|.sl _ _ _ _|.junk=>rfl
 |.ref o=>by
  grind [Cell.kill]
theorem La(h:∀o,S2 o=(S o||S' o))(A:List Cell):(A.map (Cell.kill S)).map (Cell.kill S')=A.map (Cell.kill S2):=by
 rw[aRX]
 grind [List.map_congr_left,Cell.zq]
theorem SV.zq(h:∀o,S2 o=(S o||S' o)):∀(c:SV),(c.kill S).kill S'=c.kill S2
 |.one c=>by grind [SV.kill,Cell.zq]
 |.agg cs=>by simp only[SV.kill,La h]
theorem AV.zq(h:∀o,S2 o=(S o||S' o)):∀(c:AV),(c.kill S).kill S'=c.kill S2
 |.undef=>rfl
 |.sv v=>by grind [AV.kill,SV.zq]
 |.tJ vs=>by
  simp only[AV.kill];rw[aRX,List.map_congr_left λc _=>(show((SV.kill S') ∘ (SV.kill S)) c=SV.kill S2 c from SV.zq h c)]
 |.aZ o off=>by
  grind [AV.kill]
 |.uG o i off=>by
  grind [AV.kill]
 |.win o i off=>by
  grind [AV.kill]
 |.xH _ _ _ _=>rfl
 |.cO cs off=>by simp only[AV.kill,La h]
 |.fn g caps=>by simp only[AV.kill];rw[aRX,List.map_congr_left λc _=>(show((List.map (Cell.kill S')) ∘ (List.map (Cell.kill S))) c=List.map (Cell.kill S2) c from La h c)]
theorem bD.zq(h:∀o,S2 o=(S o||S' o)):∀(c:bD),(c.kill S).kill S'=c.kill S2
 |.var cs=>by simp only[bD.kill,La h]
 |.arr _ _ _ _=>rfl
theorem St.zq(h:∀o,S2 o=(S o||S' o))(st:St):(st.kill S).kill S'=st.kill S2:=by
 simp only[St.kill,St.mk.injEq,aSy];refine⟨funext λt=>AV.zq h _,funext λo=>?_⟩;simp only[h o];cases S' o with
 |true=>cases S o<;>rfl
 |false=>
  cases S o with
  |true=>rfl
  |false=>
   cases st.ak o with
   |none=>rfl
   |some y=>grind [bD.zq]
theorem PL(h:∀o,S o=false)(A:List Cell):A.map (Cell.kill S)=A:=by rw[show Cell.kill S=id from funext (Cell.G7 h),aSg]
theorem SV.G7(h:∀o,S o=false):∀(c:SV),c.kill S=c
 |.one c=>by grind [SV.kill,Cell.G7]
 |.agg cs=>by grind [SV.kill,PL]
theorem AV.G7(h:∀o,S o=false):∀(c:AV),c.kill S=c
 |.undef=>rfl
 |.sv v=>by grind [AV.kill,SV.G7]
 |.tJ vs=>by simp only[AV.kill];rw[show SV.kill S=id from funext (SV.G7 h),aSg]
 |.aZ o off=>Xz
 |.uG o i off=>Xz
 |.win o i off=>Xz
 |.xH _ _ _ _=>rfl
 |.cO cs off=>by grind [AV.kill,PL]
 |.fn g caps=>by simp only[AV.kill];rw[show List.map (Cell.kill S)=id from funext (PL h),aSg]
theorem bD.G7(h:∀o,S o=false):∀(c:bD),c.kill S=c
 |.var cs=>by grind [bD.kill,PL]
 |.arr _ _ _ _=>rfl
theorem St.G7(h:∀o,S o=false)(st:St):st.kill S=st:=by
 cases st with
 |mk n t o=>
  simp only[St.kill,St.mk.injEq,aSy];refine⟨funext λq=>AV.G7 h _,funext λq=>?_⟩;simp only[h q];cases o q with
  |none=>rfl
  |some y=>grind [bD.G7]
theorem wL(l:List Nat)(st:St):Bl l st=st.kill (cZ l):=by
 cases l with
 |nil=>exact(St.G7 (λ_=>rfl) st).symm
 |cons=>rfl
theorem Rel.Bl(h:Rel w0 M T γ st a w)(l:List Nat):Rel w0 M T γ (Bl l st) a w:=by rw[wL];exact h.kill _
theorem Cell.C9{X:V}(h:∀o,S o=true->X.ak o=none):∀(c:Cell)(v:Value),bY X c v->c.kill S=c
 |.int _ _,_,_|.bool _,_,_|.str _,_,_|.nil,_,_|.sl _ _ _ _,_,_|.junk,_,_=>rfl
 |.ref o,v,⟨⟨e,r,l,fr,ho⟩,_⟩=>by
  grind [Cell.kill]
theorem G8{X:V}{S:Nat->Bool}(h:∀o,S o=true->X.ak o=none):∀(A:List Cell)(I:List Value),aC X A I->A.map (Cell.kill S)=A
 |[],[],_=>rfl
 |c::A,v::I,H=>by rw[aQB,Cell.C9 h c v H.1,G8 h A I H.2]
 |[],_::_,H|_::_,[],H=>o7
theorem SV.C9{X:V}(h:∀o,S o=true->X.ak o=none):∀(c:SV)(v:Value),ig X c v->c.kill S=c
 |.one c,v,H=>by rw[SV.kill,Cell.C9 h c v H]
 |.agg cs,v,⟨vs,_,H⟩=>by grind [SV.kill,G8]
theorem ais{X:V}{S:Nat->Bool}(h:∀o,S o=true->X.ak o=none):∀(A:List SV)(I:List Value),iy X A I->A.map (SV.kill S)=A
 |[],[],_=>rfl
 |c::A,v::I,H=>by rw[aQB,SV.C9 h c v H.1,ais h A I H.2]
 |[],_::_,H|_::_,[],H=>o7
theorem agt{X:V}{S:Nat->Bool}(h:∀o,S o=true->X.ak o=none):∀(l:List (List Cell))(n:List Value),iV X l n->l.map (List.map (Cell.kill S))=l
 |[],[],_=>rfl
 |cs::l,u::n,⟨⟨b,_,arr,t,fz,_,_,H⟩,H2⟩=>by rw[aQB,G8 h cs _ H,agt h l n H2]
 |[],_::_,H|_::_,[],H=>o7
theorem AV.C9{X:V}(h:∀o,S o=true->X.ak o=none):∀(c:AV)(v:Value),dB X c v->c.kill S=c
 |.undef,_,_=>rfl
 |.sv x,v,H=>by rw[AV.kill,SV.C9 h x v H]
 |.tJ xs,v,⟨vs,_,H⟩=>by grind [AV.kill,ais]
 |.aZ o off,v,⟨b,cs,ho,_⟩=>by
  grind [AV.kill]
 |.uG o i off,v,⟨b,n,cap,e,r,l,fr,ho,_⟩=>by
  grind [AV.kill]
 |.win o i off,v,⟨b,n,cap,e,r,l,fr,ho,_⟩=>by
  grind [AV.kill]
 |.xH _ _ _ _,_,_=>rfl
 |.cO cs off,v,⟨b,_,arr,t,fz,_,_,H⟩=>by grind [AV.kill,G8]
 |.fn f caps,v,⟨us,_,H⟩=>by grind [AV.kill,agt]
theorem bD.C9{X:V}(h:∀o,S o=true->X.ak o=none){o:Nat}:∀(x:bD),eF X o x->x.kill S=x
 |.var cs,⟨b,ar,t,_,_,H⟩=>by grind [bD.kill,G8]
 |.arr _ _ _ _,_=>rfl
variable {H:Nat->Bool}
theorem Cell.Bz(C:∀o,S o=true->S' o=true)(O:∀o,S' o=true->S o=true\/H o=true):∀(c:Cell),(c.kill S).touch H=false->c.kill S'=c.kill S
 |.int _ _,_|.bool _,_|.str _,_|.nil,_|.sl _ _ _ _,_|.junk,_=>rfl
 |.ref o,b=>by
  simp only[Cell.kill]at b ⊢;cases Y:S o with
  |true=>rw[C o Y]
  |false=>
   rw[Y]at b;have b:H o=false:=b
   grind
theorem Dc{S S' H:Nat->Bool}(C:∀o,S o=true->S' o=true)(O:∀o,S' o=true->S o=true\/H o=true):∀(A:List Cell),(A.map (Cell.kill S)).any (Cell.touch H)=false->A.map (Cell.kill S')=A.map (Cell.kill S)
 |[],_=>rfl
 |c::A,ht=>by rw[aQB,List.any_cons,aRw]at ht;rw[aQB,aQB,Cell.Bz C O c ht.1,Dc C O A ht.2]
theorem SV.Bz(C:∀o,S o=true->S' o=true)(O:∀o,S' o=true->S o=true\/H o=true):∀(c:SV),(c.kill S).touch H=false->c.kill S'=c.kill S
 |.one c,ht=>by simp only[SV.kill];rw[Cell.Bz C O c ht]
 |.agg cs,ht=>by simp only[SV.kill];rw[Dc C O cs ht]
theorem acF{S S' H:Nat->Bool}(C:∀o,S o=true->S' o=true)(O:∀o,S' o=true->S o=true\/H o=true):∀(A:List SV),(A.map (SV.kill S)).any (SV.touch H)=false->A.map (SV.kill S')=A.map (SV.kill S)
 |[],_=>rfl
 |c::A,ht=>by rw[aQB,List.any_cons,aRw]at ht;rw[aQB,aQB,SV.Bz C O c ht.1,acF C O A ht.2]
theorem aaD{S S' H:Nat->Bool}(C:∀o,S o=true->S' o=true)(O:∀o,S' o=true->S o=true\/H o=true):∀(l:List (List Cell)),((l.map (List.map (Cell.kill S))).any λA=>A.any (Cell.touch H))=false->l.map (List.map (Cell.kill S'))=l.map (List.map (Cell.kill S))
 |[],_=>rfl
 |c::A,ht=>by rw[aQB,List.any_cons,aRw]at ht;rw[aQB,aQB,Dc C O c ht.1,aaD C O A ht.2]
theorem AV.Bz(C:∀o,S o=true->S' o=true)(O:∀o,S' o=true->S o=true\/H o=true):∀(c:AV),(c.kill S).touch H=false->c.kill S'=c.kill S
 |.undef,_=>rfl
 |.sv v,b=>by simp only[AV.kill];rw[SV.Bz C O v b]
 |.tJ vs,b=>by simp only[AV.kill];rw[acF C O vs b]
 |.aZ o off,b=>by
  simp only[AV.kill]at b ⊢;cases Y:S o with
  |true=>rw[C o Y]
  |false=>
   rw[Y]at b;have b:H o=false:=b
   grind
 |.uG o i off,b=>by
  simp only[AV.kill]at b ⊢;cases Y:S o with
  |true=>rw[C o Y]
  |false=>
   rw[Y]at b;have b:H o=false:=b
   grind
 |.win o i off,b=>by
  simp only[AV.kill]at b ⊢;cases Y:S o with
  |true=>rw[C o Y]
  |false=>
   rw[Y]at b;have b:H o=false:=b
   grind
 |.xH _ _ _ _,_=>rfl
 |.cO cs off,b=>by simp only[AV.kill];rw[Dc C O cs b]
 |.fn g caps,b=>by simp only[AV.kill];rw[aaD C O caps b]
theorem bD.Bz(C:∀o,S o=true->S' o=true)(O:∀o,S' o=true->S o=true\/H o=true):∀(c:bD),(c.kill S).touch H=false->c.kill S'=c.kill S
 |.var cs,ht=>by simp only[bD.kill];rw[Dc C O cs ht]
 |.arr _ _ _ _,_=>rfl
theorem aDT{v s:St}{lv d b:List Nat}(h:v.more s)(C:∀o,cZ lv o=true->cZ d o=true)(O:∀o,cZ d o=true->cZ lv o=true\/cZ b o=true):
 ((Bl lv v).aqG b).more (Bl d s):=by
 have N:∀(s:St),s.aqG b={n:=s.n,tmps:=(λt=>match (s.tmps t).touch (cZ b)with|true=>.undef|false=>s.tmps t),ak:=(λo=>match cZ b o with|true=>none|false=>match s.ak o with|some x=>(match x.touch (cZ b)with|true=>none|false=>some x)|none=>none)}:=by
  intro s;cases b with
  |cons=>rfl
  |nil=>
   have q:∀c:Cell,c.touch (cZ [])=false:=λc=>by cases c<;>rfl
   have k:∀A:List Cell,A.any (Cell.touch (cZ []))=false:=λA=>jv;have r:∀c:SV,c.touch (cZ [])=false:=λc=>by cases c with|one c=>exact q c|agg A=>exact k A
   have u:∀c:AV,c.touch (cZ [])=false:=λc=>by
    cases c with
    |sv v=>exact r v
    |tJ vs=>show vs.any (SV.touch (cZ []))=false;grind
    |cO A off=>exact k A
    |fn g caps=>show(caps.any λA=>A.any (Cell.touch (cZ [])))=false;grind
    |_=>rfl
   have z:∀c:bD,c.touch (cZ [])=false:=λc=>by cases c with|var A=>exact k A|arr _ _ _ _=>rfl
   cases s with
   |mk n t o=>
    simp only[St.aqG,St.mk.injEq,aSy]
    grind [cZ]
 rw[N,wL,wL];refine⟨λt=>?_,λo y F=>?_⟩
 .dsimp only[St.kill];cases m:((v.tmps t).kill (cZ lv)).touch (cZ b)with
  |true=>exact .inl rfl
  |false=>
   rcases h.tmps t with e|e
   .rw[e];exact .inl rfl
   grind [AV.Bz]
 .dsimp only[St.kill]at F ⊢;split at F
  .cases F
  .next hh=>
   split at F
   .next x hx=>
    split at hx
    .cases hx
    .next hl=>
     cases j:v.ak o with
     |none=>grind
     |some y0=>
      split at F
      .cases F
      .next m=>
       have f:cZ d o=false:=by
        grind
       rw[f,h.ak o _ j]
       grind [bD.Bz]
   .cases F
variable {path:List iG}{L:Nat->Bool}
theorem aDU{L':Nat->Bool}(t:i<path.length)(s:L i=false)(n:L' i=true)(h:∀j,j≠i->L' j=L j)
 (X:Fits D U (pick (path.set i x) 0 L')) (b:∀y∈pick path 0 L,y.d≠x.d) (u:x.u≠[]->∀j y,i<j->L j=true->path[j]? =some y->y.u=[]):
 (((tK base (pick path 0 L)).adds x.u).adds x.δ).set x.d x.v=tK base (pick (path.set i x) 0 L')/\(∀o,cZ (xX (pick (path.set i x) 0 L')) o=(cZ (xX (pick path 0 L)) o||cZ x.k o)):=by
 have d:path=path.take i++path[i]::path.drop (i+1):=x9;have f:pick path 0 L=pick (path.take i) 0 L++pick (path.drop (i+1)) (i+1) L:=by
  grind [aby,pick]
 have m:∀(l:List iG)(j:Nat),(∀k,k<l.length->j+k≠i)->pick l j L'=pick l j L:=by
  intro l
  induction l with
  |nil=>intros;rfl
  |cons y l ih=>intro j e;rw[pick,pick,h j (by simpa using e 0 ni),ih (j+1) λk q=>by have:=e (k+1) (by simpa using q);omega]
 have g:pick (path.set i x) 0 L'=pick (path.take i) 0 L++x::pick (path.drop (i+1)) (i+1) L:=by
  grind [aby,pick]
 rw[g]at X;rw[f]at b;rw[f,g];refine⟨?_,λo=>?_⟩
 case refine_2=>
  grind [Bv,Bo]
 refine aBP X b λr y F=>?_
 grind [wK]
theorem aDV{L':Nat->Bool}(m:i<path.length)(k:L i=false)(b:L' i=true)(h:∀j,j≠i->L' j=L j)
 (X:Fits D U (pick (path.set i x) 0 L')) (e:∀y∈pick path 0 L,y.d≠x.d) (n:x.u≠[]->∀j y,i<j->L j=true->path[j]? =some y->y.u=[])
 (t:x.v.kill (cZ (xX (pick (path.set i x) 0 L')))=x.v)
 (q:∀o y,(look x.δ o=some y\/look x.u o=some y)->cZ (xX (pick (path.set i x) 0 L')) o=false/\y.kill (cZ (xX (pick (path.set i x) 0 L')))=y):
 (((Bl x.k (after base path L)).adds x.u).adds x.δ).set x.d x.v=after base (path.set i x) L':=by
 obtain⟨f,d⟩:=aDU (base:=base) m k b h X e n;have g:Bl x.k (after base path L)=(tK base (pick path 0 L)).kill (cZ (xX (pick (path.set i x) 0 L'))):=by
  grind [after,wL,St.zq]
 rw[g];unfold after;rw[wL,← f];have r:∀s:St,((s.adds x.u).adds x.δ)={s with ak:=((s.adds x.u).adds x.δ).ak}:=λs=>by grind [akO]
 simp only[St.set,St.kill,St.mk.injEq,aSy]
 grind [BL]
theorem aDW(b:∀i,L i=false):after base path L=base:=by unfold after;rw[awH path 0 L λi _=>b i];rfl
theorem aHF(h:Rel w0 M T γ st a w)(D:List Nat):Rel w0 M T γ (fE D st) a w:=h.kill _
theorem awL{o:Nat}(h:cZ D (o / 64)=true):(fE D st).ak o=none:=by simp[fE,St.kill,h]
theorem aDX(X:Fits R.D R.U (pick path 0 L))(q:∀j,(R.ms.getD i 0).testBit j=true->L j=true)
 (n:∀k x,path[k]? =some x->idxOf R.D x.d 0=some k) (K:L i=false) (f:∀k,L k=true->(R.ms.getD k 0).testBit i=false)
 (m:SC R.ms R.E i=true->∀j x,path[j]? =some x->x.u≠[]->L j=true->(R.ms.getD i 0).testBit j=true):
 ((match SC R.ms R.E i with
   |true=>tK (fE R.D st) (pick path 0 (R.ms.getD i 0).testBit)
   |false=>(tK (fE R.D st) (pick path 0 (R.ms.getD i 0).testBit)).hide R.U).veil R i).more (tK (fE R.D st) (pick path 0 L)):=by
 have b:∀x∈pick path 0 (R.ms.getD i 0).testBit,x∈pick path 0 L:=λx Z=>by
  grind [wK]
 have E:∀t,aoh R i t=false->F7 (pick path 0 L) t ((fE R.D st).tmps t)=F7 (pick path 0 (R.ms.getD i 0).testBit) t ((fE R.D st).tmps t):=by
  grind [air,aqI,wK,aoh,Nat.eq_of_beq_eq_true]
 have J:∀o y,lookO (pick path 0 (R.ms.getD i 0).testBit) o ((fE R.D st).ak o)=some y->lookO (pick path 0 L) o ((fE R.D st).ak o)=some y:=by
  intro o y F;by_cases g:∃x∈pick path 0 (R.ms.getD i 0).testBit,∃z,look x.δ o=some z
  .obtain⟨x,Z,z,hz⟩:=g;have A:∀w∈pick path 0 L,∀u,look w.δ o=some u->x=w:=λw r u h=>
    X.one x (b x Z) w r ((Bq (X.new x (b x Z)) hz).symm.trans (Bq (X.new w r) h))
   grind [awK]
  .have hno:∀x∈pick path 0 (R.ms.getD i 0).testBit,look x.δ o=none:=λx Z=>by
    cases W:look x.δ o with
    |none=>rfl
    |some z=>grind
   rw[XP _ hno]at F;rw[XP,F];intro x Z;cases W:look x.δ o with
   |none=>rfl
   |some z=>rw[awL (by rw[Bq (X.new x Z) W];exact X.mem x Z)]at F;cases F
 have d:∀o y,yR (pick path 0 (R.ms.getD i 0).testBit) o=yR (pick path 0 L) o->(tK (fE R.D st) (pick path 0 (R.ms.getD i 0).testBit)).ak o=some y->(tK (fE R.D st) (pick path 0 L)).ak o=some y:=by
  grind [tK]
 have e:∀s:St,(∀t,s.tmps t=F7 (pick path 0 (R.ms.getD i 0).testBit) t ((fE R.D st).tmps t))->(∀o y,s.ak o=some y->(tK (fE R.D st) (pick path 0 L)).ak o=some y)->(s.veil R i).more (tK (fE R.D st) (pick path 0 L)):=by
  intro s C O;refine⟨λt=>?_,O⟩;show(match aoh R i t with|true=>AV.undef|false=>s.tmps t)=.undef\/_=(match aoh R i t with|true=>AV.undef|false=>s.tmps t);cases B:aoh R i t with
  |true=>exact .inl rfl
  |false=>right;rw[C t];exact E t B
 split
 .next hc=>
  refine e _ (λt=>rfl) λo y F=>d o y ?_ F
  grind [amV]
 .next hc=>
  refine e _ (λt=>rfl) λo y F=>?_;unfold St.hide at F;dsimp only at F;split at F
  .cases F
  .next hU=>
   have I:∀x∈pick path 0 L,look x.u o=none:=λx Z=>by
    cases W:look x.u o with
    |none=>rfl
    |some z=>have:=(X.upd x Z o z W).1;grind
   grind [SH]
theorem aFI(st:St)(U:List Nat)(S:Nat->Bool):(st.kill S).hide U=(st.hide U).kill S:=by
 simp only[St.hide,St.kill,St.mk.injEq,aSy]
 grind
theorem aFJ(st:St)(R:Reg)(i:Nat)(S:Nat->Bool):(st.kill S).veil R i=(st.veil R i).kill S:=by
 simp only[St.veil,St.kill,St.mk.injEq,aSy,and_true]
 funext t
 cases aoh R i t<;>rfl
theorem azE{f:List Nat}{i e q:Nat}(b:e≠i)(C:(f.getD i 0).testBit e=false)(O:(f.getD e 0).testBit i=false):∀(A:List (Nat×Nat)),UQ A e q=true->cZ (auw f i A) q=true
 |[],h=>o5
 |(e',q')::r,h=>by
  rw[UQ]at h;rw[auw];cases d:Nat.beq e' e&&Nat.beq q' q with
  |true=>
   rw[aQm]at d;rw[aQq d.1,aQq d.2,C,O,VU b];simp[cZ,aRs]
  |false=>
   rw[d]at h;have g:=azE b C O r h;split
   .exact g
   .rw[cZ,g];split<;>rfl
theorem aBQ(X:Fits R.D R.U (pick path 0 L))(g:∀j,(R.ms.getD i 0).testBit j=true->L j=true)
 (f:∀k x,path[k]? =some x->idxOf R.D x.d 0=some k) (m:L i=false) (b:∀k,L k=true->(R.ms.getD k 0).testBit i=false)
 (d:SC R.ms R.E i=true->∀j x,path[j]? =some x->x.u≠[]->L j=true->(R.ms.getD i 0).testBit j=true)
 (n:∀e x,path[e]? =some x->L e=true->∀q∈x.k,UQ R.A e q=true):
 (viewAt R (fE R.D st) path i).more (after (fE R.D st) path L):=by
 have h:=aDX (st:=st) X g f m b d;have e:viewAt R (fE R.D st) path i=(Bl (xX (pick path 0 (R.ms.getD i 0).testBit)) ((match SC R.ms R.E i with
  |true=>tK (fE R.D st) (pick path 0 (R.ms.getD i 0).testBit)
  |false=>(tK (fE R.D st) (pick path 0 (R.ms.getD i 0).testBit)).hide R.U).veil R i)).aqG (auw R.ms i R.A):=by
  grind [viewAt,after,wL,aFI,aFJ]
 rw[e];refine aDT h (λo z=>?_) λo z=>?_
 · grind [Bv,wK]
 grind [Bv,wK,azE]
theorem awM:∀(l:List Nat)(j i d:Nat),nodup l=true->l[i]? =some d->idxOf l d j=some (j+i)
 |[],_,_,_,_,h=>yj
 |x::r,j,0,d,_,h=>by
  grind [idxOf,Nat.beq_refl]
 |x::r,j,i+1,d,hn,h=>by
  rw[nodup,aQm]at hn;have b:Nat.beq d x=false:=by
   grind [Nat.eq_of_beq_eq_true,Bo]
  rw[idxOf,b,show j+(i+1)=j+1+i from fC];exact awM r (j+1) i d hn.2 oQ
end Go.Fw
namespace Go.Fw
open Go
variable {P:Program} {w0:World} {M:Nat->Prop} {T:Ext} {γ γ':Nat->Value} {st s:St} {a:Act} {w w':World} {Θ:mD} {Γ:nI}
variable {S:Nat->Bool}
theorem Cell.G9(h:∀o,S o=false):∀(c:Cell),c.kill S=c
 |.ref o=>by grind [Cell.kill]
 |.int _ _|.bool _|.str _|.nil|.sl _ _ _ _|.junk=>rfl
theorem PN(h:∀o,S o=false)(A:List Cell):A.map (Cell.kill S)=A:=by rw[show Cell.kill S=id from funext (Cell.G9 h),aSg]
theorem SV.G9(h:∀o,S o=false):∀(c:SV),c.kill S=c
 |.one c=>by grind [SV.kill,Cell.G9]
 |.agg cs=>by grind [SV.kill,PN]
theorem AV.G9(h:∀o,S o=false):∀(c:AV),c.kill S=c
 |.undef=>rfl
 |.sv v=>by grind [AV.kill,SV.G9]
 |.tJ vs=>by simp only[AV.kill];rw[show SV.kill S=id from funext (SV.G9 h),aSg]
 |.aZ o off=>Xz
 |.uG o i off=>Xz
 |.win o i off=>Xz
 |.xH _ _ _ _=>rfl
 |.cO cs off=>by grind [AV.kill,PN]
 |.fn f caps=>by simp only[AV.kill];rw[show List.map (Cell.kill S)=id from funext (PN h),aSg]
theorem bD.G9(h:∀o,S o=false):∀(c:bD),c.kill S=c
 |.var cs=>by grind [bD.kill,PN]
 |.arr _ _ _ _=>rfl
theorem St.G9(h:∀o,S o=false)(st:St):st.kill S=st:=by
 unfold St.kill;rw[show(λt=>(st.tmps t).kill S)=st.tmps from funext λt=>AV.G9 h _];have:(λo=>match S o with|true=>none|false=>(st.ak o).map (bD.kill S))=st.ak:=by
  funext o
  rw[h o,show bD.kill S=id from funext (bD.G9 h)];cases st.ak o<;>rfl
 simp_all
theorem aDY:∀(c:Cell),c.refs=[]->c.view s=c.view st
 |.int _ _,_|.bool _,_|.str _,_|.nil,_|.sl _ _ _ _,_|.junk,_=>rfl
theorem amY:∀(A:List Cell),A.flatMap Cell.refs=[]->A.map (Cell.view s)=A.map (Cell.view st)
 |[],_=>rfl
 |c::A,h=>by rw[aRf,aQV]at h;rw[aQB,aQB,aDY c h.1,amY A h.2]
variable {m:Mode}{x:AV}{r:Arg×Option Nat}
theorem ait(h:st.more s)(hr:Ac st m x=some r):Ac s m x=some r:=by
 unfold Ac at hr ⊢;cases m with
 |val=>
  grind [JR]
 |own=>
  dsimp only at hr ⊢;split at hr
  .split at hr
   .next ho=>rw[h.ak _ _ ho];exact hr
   .cases hr
  .cases hr
 |ptr=>
  dsimp only at hr ⊢;split at hr
  .split at hr
   .next hb ho=>
    split at hr
    .next hn=>rw[hb,h.ak _ _ ho];grind [amY]
    .cases hr
   .cases hr
  .cases hr
theorem agu(hr:Ac st m x=some r):x≠ .undef:=by rintro rfl;cases m<;>simp[Ac,wI]at hr
theorem SI(h:st.more s):∀(b:List (Option Nat))(e:List Eff)(d:List (Nat×bD)),vN st b e=some d->vN s b e=some d
 |[],_,_,hb=>by grind [vN]
 |none::b,e,d,hb=>by exact SI h b _ d hb
 |some o::b,e,d,hb=>by
  unfold vN at hb ⊢;split at hb
  .next h1 h2=>rw[h1,SI h _ _ _ h2];exact hb
  .next h1 h2 h3=>rw[h1,h.ak _ _ h2,SI h _ _ _ h3];omega
  .next h1 h2 h3=>rw[h1,h.ak _ _ h2,SI h _ _ _ h3];omega
  .cases hb
theorem abz:∀(b:List (Option Nat))(d:List Eff),aiq b d=true->∀p,mJ b d p=false
 |[],_,_,_=>rfl
 |none::b,d,h,p=>by exact abz b _ h p
 |some o::b,d,h,p=>by
  unfold aiq at h;unfold mJ;split at h
  .next cs he=>rw[he];exact abz b _ h p
  .cases h
theorem axO(h:st.more s)(hr:CZ st m x=some r):CZ s m x=some r:=by
 cases m with
 |val=>
  grind [CZ,JR]
 |own=>exact ait h (m:=.own) hr
 |ptr=>exact ait h (m:=.ptr) hr
theorem auy(hr:CZ st m x=some r):x≠ .undef:=by
 cases m with
 |val=>rintro rfl;simp[CZ,wI]at hr
 |own=>exact agu (m:=.own) hr
 |ptr=>exact agu (m:=.ptr) hr
theorem amZ(h:st.more s):∀(b:List Mode)(q:List AV)(r:List Arg×List (Option Nat)),G6 st b q=some r->G6 s b q=some r
 |_,[],r,hr=>by grind [G6]
 |b,x::q,r,hr=>by
  unfold G6 at hr ⊢;split at hr
  .next h1 h2=>rw[axO h h1,amZ h _ _ _ h2];exact hr
  .cases hr
theorem aiu:∀(b:List Mode)(q:List AV)(r:List Arg×List (Option Nat)),G6 st b q=some r->∀x∈q,x≠ .undef
 |_,[],_,_,x,hx=>by cases hx
 |b,x::q,r,hr,y,F=>by
  unfold G6 at hr;split at hr
  .next h1 h2=>
   rcases aQt.1 F with rfl|F
   .exact auy h1
   .exact aiu _ _ _ h2 y F
  .cases hr
theorem aDZ{q:List AV}(h:RS q=true):Eb q=[]:=by
 grind [RS]
theorem JA:∀(e:List Mode)(q:List AV)(r:List Arg×List (Option Nat)),Eb (OT e q)=[]->G6 st e q=some r->hands st e q=some r
 |_,[],r,_,hr=>by grind [G6,hands]
 |e,x::q,r,hn,hr=>by
  unfold G6 at hr;split at hr
  .next a o as os C h2=>
   have f:hands st e.tail q=some (as,os)/\Ac st (e.headD .val) x=some (a,o):=by
    cases e with
    |nil=>
     have d:x.refs++Eb q=[]:=hn;rw[aQV]at d;refine⟨JA [] q _ (by cases q<;>exact d.2) h2,?_⟩
     grind [CZ,Ac]
    |cons m e=>
     cases m with
     |val=>
      have d:x.refs++Eb (OT e q)=[]:=hn;rw[aQV]at d;refine⟨JA e q _ d.2 h2,?_⟩;have C:CZ st .val x=some (a,o):=C;simp only[CZ]at C;simp only[Ac,d.1];split at C
      .next b hb=>rw[hb];exact C
      .cases C
     |own=>exact⟨JA e q _ hn h2,C⟩
     |ptr=>exact⟨JA e q _ hn h2,C⟩
   grind [hands]
  .cases hr
theorem axP{a:Arg}{o:Option Nat}(h:CZ st m x=some (a,o)):QS false st x a o:=by
 have d:QS true st x a o->QS false st x a o:=λh=>h.imp (λ⟨C,_,K⟩=>⟨C,(λe=>y5),K⟩) id;cases m with
 |val=>
  simp only[CZ]at h;split at h
  .next b hb=>cases h;exact .inl ⟨rfl,(λe=>y5),hb⟩
  .cases h
 |own=>exact d (YO (m:=.own) h)
 |ptr=>exact d (YO (m:=.ptr) h)
theorem am0:∀(e:List Mode)(q:List AV)(b:List Arg)(d:List (Option Nat)),G6 st e q=some (b,d)->zn false st q b d
 |_,[],b,d,h=>by cases h;trivial
 |e,x::q,b,d,h=>by
  unfold G6 at h;split at h
  .next a o as' os' h1 h2=>cases h;exact⟨axP h1,am0 e.tail q as' os' h2⟩
  .cases h
variable {Q:Exit->Act->World->Prop}
theorem azF{G:oI}(hE:Ad P G Θ Γ w0 M)(h:Rel w0 M T γ s a w)(k:st.more s)(o:Oper){D U:List Nat}{d:Nat}{p:Prop}{b:YI}{os:List (Option Nat)×Bool}
 (N:acE Γ st o.op=some (p,b,os)) (J:p) (hd:∀q,q / 64=d->s.ak q=none) (Z:∀t,b.R t->∃r,SG D U d st os (b.out t) (b.bP t)=some r) {next:Act->World->Prop} 
 (H:∀t v C A u γ' w',b.R t->SG D U d st os (b.out t) (b.bP t)=some (v,C,A)->Rel w0 M T γ' ((s.adds C).adds A) a w'->dB (aI w0 T γ' ((s.adds C).adds A) w') v u->next (a.put o.dst u) w'):o.wp P a w next Q:=by
 unfold acE at N;split at N
 case h_2=>cases N
 next f args xq hop=>
 split at N
 case h_2=>cases N
 next W con hcon=>
 split at N
 case h_2=>cases N
 next I i X=>
 split at N
 case h_2=>cases N
 next K=>
 split at N
 case h_2=>cases N
 next q ρ' hq=>
 cases N;have Y:handed s args.toList []=handed st args.toList []:=abw k [] _ (aiu _ _ _ X);have E:=amZ k _ _ _ X;rw[← Y]at E K Z H;obtain⟨L,F⟩:=hE.ayC f W con hcon;have R:dB (aI w0 T γ s w) (.fn f []) (a.eval (.func f)):=lQ h (.func f);obtain⟨n,hvx,hkx⟩:=R;unfold Oper.wp;rw[aav hop hvx F,aSt];have hxs:vC (aI w0 T γ s w) (handed s args.toList []) (args.map a.eval++n).toList:=by
  grind [Array.toList_map,Si]
 have j:(d*64+1)%64=1:=fC;have O:∀t,b.R t->∃C,GU i=true/\VT (b.bP t) ((b.out t).take (d*64+1)).2=true/\vN s i (b.bP t)=some C/\s.kill (mJ i (b.bP t))=s/\nR s ((b.out t).take (d*64+1)).2=true/\
  (!(!(RS (OT W (handed s args.toList []))))||((b.out t).made&&YP (b.bP t)))=true/\
  SG D U d st (i,!(RS (OT W (handed s args.toList [])))) (b.out t) (b.bP t)=some (((b.out t).take (d*64+1)).1,C,((b.out t).take (d*64+1)).2):=by
  intro t ht;obtain⟨r,hr⟩:=Z t ht;have hr0:=hr;unfold SG at hr;split at hr
  .next C y hb=>
   rw[aQm,aQm,aQm,aQm]at y;split at hr
   .cases hr;refine⟨C,y.1,y.2.1,SI k _ _ _ hb,St.G9 (abz _ _ y.2.2.1) s,?_,y.2.2.2.2,hr0⟩;refine aQA.2 λz hz=>?_;rw[hd z.1 (aQq (aQA.1 y.2.2.2.1 z hz))];rfl
   .cases hr
  .cases hr
 have B:∀t,b.R t->∃A,vN s i (b.bP t)=some A/\nR (s.kill (mJ i (b.bP t))) ((b.out t).take (d*64+1)).2=true/\VT (b.bP t) ((b.out t).take (d*64+1)).2=true:=λt ht=>by
  grind
 obtain⟨t0,ht0⟩:=(L I _ b hq J).1;obtain⟨_,y,_⟩:=O t0 ht0;have aLk:Calls P f (args.map a.eval++n) w λe w'=>∃t A,b.R t/\vN s i (b.bP t)=some A/\∃v γ',e=.returned v/\
  Rel w0 M T γ' (((s.kill (mJ i (b.bP t))).adds A).adds ((b.out t).take (d*64+1)).2) a w'/\dB (aI w0 T γ' (((s.kill (mJ i (b.bP t))).adds A).adds ((b.out t).take (d*64+1)).2) w') ((b.out t).take (d*64+1)).1 v:=by
  cases hnr:RS (OT W (handed s args.toList []))with
  |true=>exact h.aCD hE hxs (ael W _ I i (JA W _ _ (aDZ hnr) E)) y j L hq J B
  |false=>
   rw[hnr]at K;refine h.azj hE hxs (am0 W _ I i E) y j L hq J (λq e r l g=>?_) (λt ht=>?_) B
   .unfold gK at g;split at g
    .next e' r' l' hb=>have:=aQA.1 K _ (aQU hb);cases this
    .split at g<;>cases g
    .cases g
   grind
 refine aLk.mono ?_
 grind
variable {ops:Array Oper}{i:Nat}
theorem L6{listed:Array Bool}:i∈Region.ready .any ops listed↔
 ∃o,ops[i]? =some o/\listed.getD i true=false/\∀e∈o.after,Region.binds .any e=true->listed.getD e.on false=true:=by
 grind [mem_ready]
theorem aaE{listed:Array Bool}(D:i<listed.size):listed.getD i true=listed.getD i false:=by
 grind
theorem aKb(d:Nat):(d*64+1) / 64=d:=fC
theorem awN{o:Op}(h:G5 o=true):I4 Γ o=true:=by
 unfold G5 at h;split at h
 .rfl
 .cases h
theorem Rel.aLl(h:Rel w0 M T γ st a w)(d:Nat)(b:st.n<=d)(v:AV)(R:v=.tJ []):Rel w0 M T γ (st.set d v) (a.put none undef) w:=by
 refine⟨h.mT,h.defers,h.size,h.os,h.tape,h.output,h.grow,h.kept,λt=>?_,h.ak,h.lt,h.sep,h.pin⟩;show dB _ (match Nat.beq t d with|true=>v|false=>st.tmps t) (a.tmps.getD t undef);cases U:Nat.beq t d with
 |false=>exact h.tmps t
 |true=>have e:=aQq U;have Y:=h.size;have:a.tmps.getD t undef=undef:=jv;rw[this,R];exact⟨#[],rfl,trivial⟩
theorem auA{G:oI}(j:Ad P G Θ Γ w0 M){s:St}(h:Rel w0 M T γ s a w)(k:st.more s)(o:Oper){g:List (Nat×bD)}(N:YV Θ st o.op=some g){next:Act->World->Prop}
 (H:∀γ' w',Rel w0 M T γ' ((s.adds g).adds []) a w'->next (a.put o.dst undef) w'):o.wp P a w next Q:=by
 unfold YV at N;split at N
 case h_2=>cases N
 next t p x l=>
 split at N
 case h_2=>cases N
 next v u q e R n J=>
 split at N
 case h_2=>cases N
 next A L z=>
 split at N
 case h_2=>cases N
 next f=>
 cases N;have Y:store s (.aZ q e) v=some (True,s.add q (.var (splice A e v.cells))):=by unfold store;simp only[k.ak q _ z,f]
 have b:=lQ h p;rw[eY k J ni]at b;have d:=lQ h x;rw[eY k R ni]at d;obtain⟨w',C,O⟩:=awr j.types h n Y trivial b d (aQq L);exact Oper.wp_skip (w':=w') QD (H γ w' O)
theorem Cell.rC(st:St):∀(c:Cell),c.kill S=c->c.freeze st S=c
 |.ref o,h=>by
  grind [Cell.kill,Cell.freeze]
 |.int _ _,_|.bool _,_|.str _,_|.nil,_|.sl _ _ _ _,_|.junk,_=>rfl
theorem wM{S:Nat->Bool}(st:St):∀(A:List Cell),A.map (Cell.kill S)=A->A.map (Cell.freeze st S)=A
 |[],_=>rfl
 |c::A,h=>by rw[aQB,List.cons.injEq]at h;rw[aQB,Cell.rC st c h.1,wM st A h.2]
theorem SV.rC(st:St):∀(c:SV),c.kill S=c->c.freeze st S=c
 |.one c,h=>by
  grind [SV.kill,SV.freeze,Cell.rC]
 |.agg cs,h=>by
  grind [SV.kill,SV.freeze,wM]
theorem V5{S:Nat->Bool}(st:St):∀(A:List SV),A.map (SV.kill S)=A->A.map (SV.freeze st S)=A
 |[],_=>rfl
 |c::A,h=>by rw[aQB,List.cons.injEq]at h;rw[aQB,SV.rC st c h.1,V5 st A h.2]
theorem Uj{S:Nat->Bool}(st:St):∀(l:List (List Cell)),l.map (List.map (Cell.kill S))=l->l.map (List.map (Cell.freeze st S))=l
 |[],_=>rfl
 |c::cs,h=>by rw[aQB,List.cons.injEq]at h;rw[aQB,wM st c h.1,Uj st cs h.2]
theorem AV.rC(st:St):∀(c:AV),c.kill S=c->c.freeze st S=c
 |.undef,_=>rfl
 |.sv v,h=>by
  grind [AV.kill,AV.freeze,SV.rC]
 |.tJ vs,h=>by
  grind [AV.kill,AV.freeze,V5]
 |.aZ o off,h=>by
  grind [AV.kill,AV.freeze]
 |.uG o i off,h=>by
  grind [AV.kill,AV.freeze]
 |.win o i off,h=>by
  grind [AV.kill,AV.freeze]
 |.xH _ _ _ _,_=>rfl
 |.cO cs off,h=>by
  grind [AV.kill,AV.freeze,wM]
 |.fn f caps,h=>by
  grind [AV.kill,AV.freeze,Uj]
theorem bD.rC(st:St):∀(c:bD),c.kill S=c->c.freeze st S=c
 |.var cs,h=>by
  grind [bD.kill,bD.freeze,wM]
 |.arr _ _ _ _,_=>rfl
theorem aHG{s:St}{γ0:Nat->Value}{k:World}{g:Act}(d:Rel w0 M T γ0 s g k){q:Nat}(y:s.ak q=none){e:TypeId}{r:aP}{l:List r.den}{fr:Bool}{u:Value}
 (h:Rel w0 M T γ (s.adds [(q,.arr e r l fr)]) a w) (R:dB (aI w0 T γ (s.adds [(q,.arr e r l fr)]) w) (.sv (.one (.ref q))) u):
 Rel w0 M T γ s a w/\dB (aI w0 T γ s w) (.sv (.one (.sl e r l fr))) u:=by
 have f:∀o,Nat.beq q o=true->s.ak o=none:=λo z=>x9;have n:(s.adds [(q,.arr e r l fr)]).ak q=some (.arr e r l fr):=by
  show(match Nat.beq q q with|true=>some _|false=>_)=_
  simp_all
 have b:∀o,Nat.beq q o=false->(s.adds [(q,.arr e r l fr)]).ak o=s.ak o:=λo z=>by
  show(match Nat.beq o q with|true=>some _|false=>_)=_
  grind [Nat.eq_of_beq_eq_true]
 have Y:(s.adds [(q,.arr e r l fr)]).freeze (Nat.beq q)=s:=by
  have j:((s.adds [(q,.arr e r l fr)]).freeze (Nat.beq q)).tmps=s.tmps:=by
   funext t
   exact AV.rC _ _ (AV.C9 f _ _ (d.tmps t))
  have z:((s.adds [(q,.arr e r l fr)]).freeze (Nat.beq q)).ak=s.ak:=by
   funext o
   simp only[St.freeze];cases U:Nat.beq q o with
   |true=>grind
   |false=>
    simp only[b o U];cases Z:s.ak o with
    |none=>rfl
    |some x=>simp only[aSM,bD.rC _ x (bD.C9 f x (d.ak o x Z))]
  show(⟨s.n,((s.adds [(q,.arr e r l fr)]).freeze (Nat.beq q)).tmps,((s.adds [(q,.arr e r l fr)]).freeze (Nat.beq q)).ak⟩:St)=⟨s.n,s.tmps,s.ak⟩;rw[j,z]
 have C:=h.freeze (S:=Nat.beq q);have O:=dB.freeze (S:=Nat.beq q) h _ _ R
 grind [AV.freeze,SV.freeze,Cell.freeze]
structure Way(R:Reg)(ops:Array Oper)(t0:Nat)(path:List iG):Prop where
 len:path.length=t0
 dst:∀(i:Nat)(o:Oper)(x:iG),ops[i]? =some o->path[i]? =some x->CY R.n i o=some x.d
 aHH:∀x∈path,cZ R.D x.d=true
 apart:∀(i j:Nat)(x y:iG),path[i]? =some x->path[j]? =some y->x.d=y.d->i=j
 idx:∀(i:Nat)(x:iG),path[i]? =some x->idxOf R.D x.d 0=some i
variable {R:Reg}{path:List iG}
theorem Ae.fit{base:St}{o:Oper}{x:iG}(h:Ae Θ Γ R base path i o x):
 Ny x.d x.δ=true/\(∀q y,look x.u q=some y->cZ R.U q=true/\cZ R.D (q / 64)=false)/\(x.u≠[]->I4 Γ o.op=true)/\∀q∈x.k,UQ R.A i q=true/\cZ R.D (q / 64)=true:=by
 obtain⟨_,_,K⟩:=h;rcases K with⟨_,⟨_,_,p,v,f,_,_,H,Z⟩|⟨_,_,p,q,y,_,_,⟨C,O,K⟩,Z⟩|⟨g,_,k,_,B,Z⟩|⟨⟨g,_⟩,j,p,D,A,t,_,_,_,_,b⟩⟩|⟨_,Z⟩
 .obtain⟨l1,l2,l3,l4⟩:=xu R.F ⟨x.d,v,[],f,[]⟩;rw[← Z]at l2 l3 l4;exact⟨aQA.2 λy F=>aQA.1 H y (l4 y F),(λq y F=>by rw[l2]at F;cases F),(λe=>(e l2).elim),λq u=>jv⟩
 .obtain⟨l1,l2,l3,l4⟩:=xu R.F ⟨x.d,.sv (.one (.ref (x.d*64+1))),[],[(x.d*64+1,y)],[q]⟩;rw[← Z]at l2 l3 l4;refine⟨aQA.2 λz n=>?_,(λq y F=>by rw[l2]at F;cases F),(λe=>(e l2).elim),λr hr=>?_⟩
  .have:z=(x.d*64+1,y):=jv;rw[this];rw[show(x.d*64+1) / 64=x.d from fC,aRs]
  grind
 .rw[Z];refine⟨rfl,λq y F=>?_,(λ_=>g),λq u=>by cases u⟩;have:=aQA.1 B _ (Fv _ _ _ F)
  grind
 .unfold SG at b;split at b
  .next k hnd hb=>
   split at b
   .next hall=>
    simp only[Option.some.injEq,Prod.mk.injEq]at b;obtain⟨_,d,l⟩:=b;refine⟨jv,λq y F=>?_,(λ_=>g),λq u=>jv⟩;rw[← d]at F;have:=aQA.1 hall _ (Fv _ _ _ F)
    grind
   .cases b
  .cases b
 .rw[Z];exact⟨rfl,(λq y F=>by cases F),(λe=>(e rfl).elim),λq u=>by cases u⟩
theorem aqJ:∀(l:List Oper)(i j:Nat)(o:Oper),l[j]? =some o->I4 Γ o.op=true->i+j∈acD Γ i l
 |[],_,_,_,h,_=>yj
 |x::r,i,0,o,h,he=>by
  grind [acD]
 |x::r,i,j+1,o,h,he=>by
  have:=aqJ r (i+1) j o oQ he
  grind [acD]
variable {L:Nat->Bool}
theorem Way.fits{t0:Nat}{base:St}(W:Way R ops t0 path)(g:t0<=ops.size)
 (d:∀j o x,ops[j]? =some o->path[j]? =some x->L j=true->Ae Θ Γ R base path j o x):Fits R.D R.U (pick path 0 L):=by
 have b:∀x∈pick path 0 L,∃j o,L j=true/\path[j]? =some x/\ops[j]? =some o:=λx Z=>by obtain⟨j,C,O⟩:=(wK _ _).1 Z;rw[aRl]at C;obtain⟨l,_⟩:=aQC.1 O;have f:=W.len;exact⟨j,ops[j]' fC,C,O,ni⟩
 refine⟨λx Z y F e=>?_,λx Z=>?_,λx Z=>?_,λx Z q z h=>?_⟩
 .obtain⟨j,_,_,O,_⟩:=b x Z;obtain⟨k,_,_,K,_⟩:=b y F;have:=W.apart j k x y O K e
  grind
 .obtain⟨j,_,_,O,_⟩:=b x Z;exact W.aHH x (aQU O)
 .obtain⟨j,o,C,O,K⟩:=b x Z;exact(d j o x K O C).fit.1
 .obtain⟨j,o,C,O,K⟩:=b x Z;exact(d j o x K O C).fit.2.1 q z h
theorem Way.set{t0:Nat}{x y:iG}(W:Way R ops t0 path)(F:path[i]? =some y)(t:x.d=y.d):Way R ops t0 (path.set i x):=by
 have b:∀(j:Nat)(z:iG),(path.set i x)[j]? =some z->∃d,path[j]? =some d/\z.d=d.d:=λj z f=>by
  grind
 refine⟨by simpa using W.len,λj o z g f=>?_,λz f=>?_,λj k u v h l e=>?_,λj z f=>?_⟩
 .obtain⟨d,C,O⟩:=b j z f;rw[W.dst j o d g C,O]
 .obtain⟨j,hj⟩:=aSb f;obtain⟨d,C,O⟩:=b j z hj;rw[O];exact W.aHH d (aQU C)
 .obtain⟨u',C,O⟩:=b j u h;obtain⟨n,K,q⟩:=b k v l;exact W.apart j k u' n C K fC
 .obtain⟨d,C,O⟩:=b j z f;rw[O];exact W.idx j d C
theorem aHI{G:oI}(hE:Ad P G Θ Γ w0 M){t0:Nat}{L':Nat->Bool}{o:Oper}
 (W:Way R ops t0 path) (hle:t0<=ops.size) (hit:i<t0)
 (hRn:R.n=st.n) (hDn:∀i o d,ops[i]? =some o->i<t0->o.dst=some d->d<st.n) (hgd:∀i o g b,ops[i]? =some o->i<t0->o.guard=some (g,b)->∃og d,ops[g]? =some og/\og.dst=some d) (hcmp:∀e∈R.E,SC R.ms R.E e=true) (hEi:∀j o',ops[j]? =some o'->j<t0->I4 Γ o'.op=true->j∈R.E)
 (hA:∀e q,UQ R.A e q=true->∃j,idxOf R.D (q / 64) 0=some j/\(R.ms.getD e 0).testBit j=true)
 (ho:ops[i]? =some o) (hen:Enabled Θ Γ R (fE R.D st) path i o)
 (hok:∀j o x,ops[j]? =some o->path[j]? =some x->L j=true->Ae Θ Γ R (fE R.D st) path j o x)
 (hcl:∀j k,L j=true->(R.ms.getD j 0).testBit k=true->L k=true)
 (hsub:∀j,(R.ms.getD i 0).testBit j=true->L j=true) (D:L i=false) (hi':L' i=true) (h:∀j,j≠i->L' j=L j)
 (hR:Rel w0 M T γ (after (fE R.D st) path L) a w) {K:Act->World->Prop}
 (hK:∀x γ' a' w',(∃y,path[i]? =some y/\x.d=y.d)->Ae Θ Γ R (fE R.D st) (path.set i x) i o x->Rel w0 M T γ' (after (fE R.D st) (path.set i x) L') a' w'->K a' w'):
 wpOp P ops Q i K a w:=by
 obtain⟨d,hd,hm,hcase⟩:=hen;have hlen:=W.len;have hil:i<path.length:=fC;have F:path[i]? =some path[i]:=by simp[hil]
 have hyd:path[i].d=d:=by
  have:=W.dst i o _ ho F
  grind
 have hdD:cZ R.D d=true:=by rw[← hyd];exact W.aHH _ (aQU F)
 have ayG:o.dst=some d\/(o.dst=none/\G5 o.op=true/\st.n<=d):=by
  grind [CY]
 have hfit:=W.fits hle hok;have hne:∀y∈pick path 0 L,y.d≠d:=λy E e=>by
  obtain⟨j,C,O⟩:=(wK _ _).1 E;rw[aRl]at C;have:=W.apart j i y _ O F fC
  grind
 have heff:∀j x,path[j]? =some x->x.u≠[]->L j=true->j∈R.E:=λj x Z hu hL=>by obtain⟨hj,_⟩:=aQC.1 Z;have hoj:ops[j]? =some (ops[j]' fC):=ni;exact hEi j _ hoj fC ((hok j _ x hoj Z hL).fit.2.2.1 hu)
 have aKc:SC R.ms R.E i=true->∀j,j∈R.E->L j=true->(R.ms.getD i 0).testBit j=true:=λN j hjE hL=>by
  have:=aQA.1 N j hjE;rw[aRo,aRo]at this;rcases this with g|g|g
  · simp_all
  .exact g
  grind
 have U:(viewAt R (fE R.D st) path i).more (after (fE R.D st) path L):=
  aBQ hfit hsub W.idx D (λk hk=>by
   grind) (λN j x Z hu hL=>aKc N j (heff j x Z hu hL) hL) λe x Z hL q A=>by obtain⟨hj,_⟩:=aQC.1 Z;have hoj:ops[e]? =some (ops[e]' fC):=ni;exact((hok e _ x hoj Z hL).fit.2.2.2 q A).1
 have aPw:∀q,cZ (xX (pick path 0 L)) q=true->cZ R.D (q / 64)=true/\q / 64≠d:=λq A=>by
  obtain⟨x,Z,hxq⟩:=(Bv _).1 A;obtain⟨e,C,O⟩:=(wK _ _).1 Z;rw[aRl]at C;obtain⟨hj,_⟩:=aQC.1 O;have hoj:ops[e]? =some (ops[e]' fC):=ni;have X:=(hok e _ x hoj O C).fit.2.2.2 q hxq;refine⟨X.2,λe2=>?_⟩;obtain⟨j,g1,g2⟩:=hA e q X.1;have:=W.idx i _ F
  grind
 have hnone:∀q,q / 64=d->(after (fE R.D st) path L).ak q=none:=λq A=>by
  have hqD:cZ R.D (q / 64)=true:=jv;have hP:(tK (fE R.D st) (pick path 0 L)).ak q=none:=by
   unfold tK;dsimp only;rw[SH _ λy E=>by
    cases hl:look y.u q with
    |none=>rfl
    |some z=>have:=(hfit.upd y E q z hl).2;grind]
   dsimp only;rw[XP _ λy E=>by
    cases hl:look y.δ q with
    |none=>rfl
    |some z=>exact(hne y E ((Bq (hfit.new y E) hl).symm.trans A)).elim]
   exact awL hqD
  grind [after,wL,St.kill]
 have hself:∀x:iG,∀j,(R.ms.getD i 0).testBit j=true->path[j]? =(path.set i x)[j]? :=λx j hj=>by
  grind
 have fin:∀(x:iG)(γ':Nat->Value)(w':World)(u:Value),x.d=d->(o.dst=none->x.v=.tJ [])->(∀q y,look x.u q=some y->cZ R.U q=true/\cZ R.D (q / 64)=false)->Ny x.d x.δ=true->(x.u≠[]->i∈R.E)->(∀q∈x.k,cZ R.D (q / 64)=true/\q / 64≠d)->
  Ae Θ Γ R (fE R.D st) path i o x->Rel w0 M T γ' (((Bl x.k (after (fE R.D st) path L)).adds x.u).adds x.δ) a w'->dB (aI w0 T γ' (((Bl x.k (after (fE R.D st) path L)).adds x.u).adds x.δ) w') x.v u->K (a.put o.dst u) w':=by
  intro x γ' w' u hxd hxv hxu hxn hxE hxk SK f hv;have hn2:(((Bl x.k (after (fE R.D st) path L)).adds x.u).adds x.δ).n=st.n:=by rw[(QO _ _).2,(QO _ _).2,wL];unfold after;rw[wL];rfl
  have aLn:∀q,cZ (xX (pick (path.set i x) 0 L')) q=true->cZ R.D (q / 64)=true/\q / 64≠d:=λq A=>by
   obtain⟨y,hy1,hyq⟩:=(Bv _).1 A;obtain⟨e,C,O⟩:=(wK _ _).1 hy1;rw[aRl]at C;by_cases hei:e=i
   · grind
   grind [Bv,wK]
  have aJy:∀q,cZ (xX (pick (path.set i x) 0 L')) q=true->(((Bl x.k (after (fE R.D st) path L)).adds x.u).adds x.δ).ak q=none:=λq A=>by
   obtain⟨g1,g2⟩:=aLn q A;rw[BL,BL];have hδq:look x.δ q=none:=by
    cases hl:look x.δ q with
    |none=>rfl
    |some z=>grind [Bq]
   have huq:look x.u q=none:=by
    cases hl:look x.u q with
    |none=>rfl
    |some z=>grind
   rw[hδq,huq];dsimp only;rw[wL];unfold after;rw[wL];obtain⟨y,hy1,hyq⟩:=(Bv _).1 A;obtain⟨e,C,O⟩:=(wK _ _).1 hy1;rw[aRl]at C;by_cases hei:e=i
   · grind [St.kill,Bo]
   .rw[aSc (aSG hei)]at O;rw[h e hei]at C;have:=(Bv (o:=q) (pick path 0 L)).2 ⟨y,(wK _ _).2 ⟨e,jv,O⟩,hyq⟩;simp only[St.kill,this,aR3];cases cZ x.k q<;>rfl
  have hset:Rel w0 M T γ' (St.set (((Bl x.k (after (fE R.D st) path L)).adds x.u).adds x.δ) x.d x.v) (a.put o.dst u) w':=by
   rcases ayG with Y|⟨Y,_,hs2⟩
   .rw[Y,← hxd];exact f.set x.d jv x.v u hv
   .rw[Y];exact f.aLl x.d fC x.v (hxv Y)
  have W':Way R ops t0 (path.set i x):=W.set F (by rw[hxd,hyd]);have aMq:Fits R.D R.U (pick (path.set i x) 0 L'):=by
   refine W'.fits (Θ:=Θ) (Γ:=Γ) (base:=fE R.D st) hle λj o' z ho' hz hL=>?_;by_cases e:j=i
   .subst e;rw[List.getElem?_set_self hil]at hz;cases hz;rw[ho]at ho';cases ho';exact SK.agree (hself x)
   .rw[aSc (aSG e)]at hz;rw[h j e]at hL;refine(hok j o' z ho' hz hL).agree λk hk=>?_
    grind
  rw[aDV hil D hi' h aMq (λy E=>jv) (λhu j y hj hL E=>by
   grind [yS]) (AV.C9 aJy _ _ hv) (λq y A=>by
   have GV:(((Bl x.k (after (fE R.D st) path L)).adds x.u).adds x.δ).ak q=some y:=by
    rw[BL,BL];rcases A with A|A
    .rw[A]
    .have:look x.δ q=none:=by
      cases hl:look x.δ q with
      |none=>rfl
      |some z=>have C:=(hxu q y A).2;rw[(Bq hxn hl).trans hxd,hdD]at C;cases C
     rw[this,A]
   refine⟨?_,bD.C9 aJy y (f.ak q y GV)⟩
   grind)]at hset
  exact hK x γ' _ _ ⟨_,F,by rw[hxd,hyd]⟩ (SK.agree (hself x)) hset
 have fin2:∀(x:iG)(γ':Nat->Value)(w':World)(u:Value),x.d=d->x.u=[]->(o.dst=none->False)->Ny x.d x.δ=true->(∀q∈x.k,cZ R.D (q / 64)=true/\q / 64≠d)->
  Ae Θ Γ R (fE R.D st) path i o (vF R.F x)->Rel w0 M T γ' (((Bl x.k (after (fE R.D st) path L)).adds []).adds x.δ) a w'->dB (aI w0 T γ' (((Bl x.k (after (fE R.D st) path L)).adds []).adds x.δ) w') x.v u->K (a.put o.dst u) w':=by
  intro x γ' w' u hxd hxu hno hxn hxk SK f hv;obtain⟨l1,l2,l3,l4⟩:=xu R.F x;refine fin (vF R.F x) γ' w' u (l1.trans hxd) (λh=>(hno h).elim) (λq y F=>by rw[l2,hxu]at F;cases F) (aQA.2 λy F=>by rw[l1];exact aQA.1 hxn y (l4 y F)) (λhne=>(hne (l2.trans hxu)).elim) (by rw[l3];exact hxk) SK ?_ ?_
  all_goals
   rw[l3,l2,hxu];unfold vF;split
   .next q q' e r l fr _ hv2 hu2 hδ=>
    split
    .next hb=>
     have e1:=aQq hb;subst e1;rw[hδ]at f hv hxn;rw[hv2]at hv;have hqd:q / 64=d:=by have:=aQq (aQA.1 hxn _ aQr);exact this.trans hxd
     have hq0:(Bl x.k (after (fE R.D st) path L)).ak q=none:=by rw[wL];simp only[St.kill,hnone q hqd,aR3];cases cZ x.k q<;>rfl
     have:=aHG (hR.Bl x.k) hq0 f hv
     first|exact this.1|exact this.2
    .first|exact f|exact hv
   .first|exact f|exact hv
 have hgv:∀g b y,o.guard=some (g,b)->(R.ms.getD i 0).testBit g=true->path[g]? =some y->∃og,ops[g]? =some og/\og.dst=some y.d/\∃u,a.tmps[y.d]? =some u/\dB (aI w0 T γ (after (fE R.D st) path L) w) (y.v.kill (cZ (xX (pick path 0 L)))) u:=by
  intro g b y hgo hg E;obtain⟨hgl,_⟩:=aQC.1 E;have hog:ops[g]? =some (ops[g]' fC):=ni;have aLo:(ops[g]' fC).dst=some y.d:=by obtain⟨og,e,C,O⟩:=hgd i o g b ho hit hgo;rw[hog]at C;cases C;have:=W.dst g _ y hog E;unfold CY at this;rw[O]at this;rw[O];exact this
  have hyD:y.d<st.n:=hDn g _ _ hog fC aLo;have B:y∈pick path 0 L:=(wK _ _).2 ⟨g,by rw[aRl];exact hsub g hg,E⟩;have htm:(after (fE R.D st) path L).tmps y.d=y.v.kill (cZ (xX (pick path 0 L))):=by unfold after;rw[wL];show(F7 (pick path 0 L) y.d _).kill _=_;rw[air _ B λz hz e=>hfit.one y B z hz e]
  have hr1:=hR.tmps y.d;rw[htm]at hr1;have hsz:y.d<a.tmps.size:=by rw[hR.size];unfold after;rw[wL];exact hyD
  refine⟨_,hog,aLo,a.tmps[y.d],ni,?_⟩;simpa[Array.getD,hsz]using hr1
 unfold wpOp;simp only[ho];rcases hcase with⟨hw,hcase⟩|hun
 .have hwant:Region.wanted o (yielded ops a.tmps)=true:=by
   rcases hw with e|⟨g,b,y,e1,e2,e3,e4⟩
   .unfold Region.wanted;rw[e]
   .obtain⟨og,k1,k2,u,k3,k4⟩:=hgv g b y e1 e2 e3;rw[e4]at k4;have k4:u=.bool b:=k4;subst k4;unfold Region.wanted;rw[e1];simp[yielded,k1,k2,k3]
  rw[if_pos hwant];left;rcases hcase with⟨he,ha,p,v,δ,hcalm,J,H⟩|⟨he,ha,p,q,y,happ,J,hq1,hq2,hq3⟩|⟨he,hst,υ,hυ,B⟩|⟨⟨he,hst⟩,p,ρ,os,hrel,J,hall⟩
  .obtain⟨v',hc',hless⟩:=aFk U d o.op hcalm;have hfr:nR (after (fE R.D st) path L) δ=true:=by refine aQA.2 λz hz=>?_;rw[hnone z.1 (aQq (aQA.1 H z hz))];rfl
   refine XD hE hR o hc' J hfr ?_;intro u γ' w' f hv';have hvx:dB (aI w0 T γ' ((after (fE R.D st) path L).adds δ) w') v u:=by
    rcases hless with e|e
    .rw[e];trivial
    .rw[← e];exact hv'
   have SK:Ae Θ Γ R (fE R.D st) path i o (vF R.F ⟨d,v,[],δ,[]⟩):=by obtain⟨l1,_⟩:=xu R.F ⟨d,v,[],δ,[]⟩;refine⟨by rw[l1];exact hd,hm,.inl ⟨hw,.inl ⟨he,ha,p,v,δ,by rw[l1];exact hcalm,J,by rw[l1];exact H,by rw[l1]⟩⟩⟩
   exact fin2 ⟨d,v,[],δ,[]⟩ γ' w' u rfl rfl (λh=>by
    rcases ayG with Y|⟨_,Y,_⟩
    .rw[h]at Y;cases Y
    .rw[awN Y]at he;cases he) H (λq A=>by cases A) SK f hvx
  .have aMr:=aBL U happ;have SK:Ae Θ Γ R (fE R.D st) path i o (vF R.F ⟨d,.sv (.one (.ref (d*64+1))),[],[(d*64+1,y)],[q]⟩):=by obtain⟨l1,_⟩:=xu R.F ⟨d,.sv (.one (.ref (d*64+1))),[],[(d*64+1,y)],[q]⟩;refine⟨by rw[l1];exact hd,hm,.inl ⟨hw,.inr (.inl ⟨he,ha,p,q,y,happ,J,by rw[l1];exact⟨hq1,hq2,hq3⟩,by rw[l1]⟩)⟩⟩
   have hkq:∀s:St,s.kill (cZ [q])=s.kill (Nat.beq q ·):=λs=>by
    rw[show cZ [q]=(Nat.beq q ·)from funext λo=>by
     simp only[cZ];cases C:Nat.beq o q with
     |true=>rw[aQq C,aRs]
     |false=>
      cases O:Nat.beq q o with
      |false=>rfl
      |true=>rw[aQq O,aRs]at C;cases C]
   refine aFs hE hR o (n:=d*64+1) aMr J (hnone (d*64+1) (aKb d)) λu γ' w' f hv=>?_;rw[← hkq]at f hv;exact fin2 ⟨d,.sv (.one (.ref (d*64+1))),[],[(d*64+1,y)],[q]⟩ γ' w' u rfl rfl (λh=>by
    rcases ayG with Y|⟨_,Y,_⟩
    .rw[h]at Y;cases Y
    .rw[awN Y]at he;cases he) (by show(Nat.beq ((d*64+1) / 64) d&&true)=true;rw[show(d*64+1) / 64=d from fC,aRs];rfl)
    (λr hr=>by rw[show r=q by simpa using hr];exact⟨hq1,hq2⟩) SK f hv
  .have SK:Ae Θ Γ R (fE R.D st) path i o ⟨d,.tJ [],υ,[],[]⟩:=⟨hd,hm,.inl ⟨hw,.inr (.inr (.inl ⟨he,hst,υ,hυ,B,rfl⟩))⟩⟩;obtain⟨f1,f2,f3,_⟩:=SK.fit;refine auA hE hR U o hυ λγ' w' f=>?_;exact fin ⟨d,.tJ [],υ,[],[]⟩ γ' w' undef rfl (λ_=>rfl) f2 f1 (λ_=>hEi i o ho hit he) (λq A=>by cases A) SK f ⟨#[],rfl,trivial⟩
  .refine azF hE hR U o hrel J hnone hall λt v υ δ u γ' w' ht hres f hv=>?_;have SK:Ae Θ Γ R (fE R.D st) path i o ⟨d,v,υ,δ,[]⟩:=⟨hd,hm,.inl ⟨hw,.inr (.inr (.inr ⟨⟨he,hst⟩,rfl,p,ρ,os,t,hrel,J,ht,hall,hres⟩))⟩⟩;obtain⟨f1,f2,f3,_⟩:=SK.fit;exact fin ⟨d,v,υ,δ,[]⟩ γ' w' u rfl (λh=>by
    rcases ayG with Y|⟨_,Y,_⟩
    .rw[h]at Y;cases Y
    .rw[hst]at Y;cases Y) f2 f1 (λ_=>hEi i o ho hit he) (λq A=>by cases A) SK f hv
 .have hwant:Region.wanted o (yielded ops a.tmps)=false:=by
   obtain⟨g,b,y,e1,e2,e3,e4⟩:=hun;obtain⟨og,k1,k2,u,k3,k4⟩:=hgv g b y e1 e2 e3;unfold Region.wanted;rw[e1];rcases e4 with⟨c,e4,hne'⟩|⟨I,e4⟩
   .rw[e4]at k4;have k4:u=.bool c:=k4;subst k4;cases c<;>cases b<;>first|(exact(hne' rfl).elim)|simp[yielded,k1,k2,k3]
   .rw[e4]at k4;obtain⟨us,rfl,_⟩:=k4;simp[yielded,k1,k2,k3]
  rw[if_neg (by rw[hwant];simp)];exact fin (skipped d) γ w undef rfl (λ_=>rfl) (λq y F=>by cases F) rfl (λhu=>(hu rfl).elim) (λq A=>by cases A) ⟨hd,hm,.inr ⟨hun,rfl⟩⟩ hR ⟨#[],rfl,trivial⟩
theorem fill{G:oI}(hE:EnvB P G Θ Γ){base:St}{front:List Oper}
 (aez:∀ext:List iG,aoj Θ Γ R base front ext->∀o,front[ext.length]? =some o->Enabled Θ Γ R base ext ext.length o)
 (hok:∀j o x,front[j]? =some o->path[j]? =some x->L j=true->Ae Θ Γ R base path j o x) (hlen:path.length=front.length)
 (hcl:∀j k,L j=true->(R.ms.getD j 0).testBit k=true->L k=true):
 ∀n,n<=front.length->∃ext:List iG,ext.length=n/\aoj Θ Γ R base front ext/\∀j,j<n->L j=true->ext[j]? =path[j]? :=by
 intro n
 induction n with
 |zero=>exactλ_=>⟨[],rfl,(λi o x _ Z=>by simp at Z),(λj b=>fC)⟩
 |succ n ih=>
  intro H;obtain⟨ext,C,O,K⟩:=ih fC;have z:front[n]? =some (front[n]' fC):=ni;have A:∀x:iG,Ae Θ Γ R base (ext++[x]) n (front[n]' fC) x->aoj Θ Γ R base front (ext++[x]):=by
   intro x Z i o y D F;rcases aQE i n with hlt|hge
   .rw[aDS fC]at F;have:=O i o y D F;refine this.agree λj b=>?_;have:j<i:=by
     rcases aQE j i with h|h
     .exact h
     .rw[yS this.2.1 h]at b;cases b
    grind
   grind
  cases hL:L n with
  |true=>
   have J:path[n]? =some (path[n]' fC):=ni;have Z:=hok n _ _ z J hL;have E:∀j,(R.ms.getD n 0).testBit j=true->path[j]? =(ext++[path[n]' fC])[j]? :=λj b=>by
    have hjn:j<n:=by
     rcases aQE j n with h|h
     .exact h
     .rw[yS Z.2.1 h]at b;cases b
    grind
   refine⟨ext++[path[n]' fC],by simp[C],A _ (Z.agree E),λj b hLj=>?_⟩
   grind
  |false=>
   have hen:=aez ext O _ (by rw[C];exact z);rw[C]at hen;have E:∀x:iG,(∃d,CY R.n n (front[n]' fC)=some d/\R.ms.getD n 0<2 ^ n)->∀j,(R.ms.getD n 0).testBit j=true->ext[j]? =(ext++[x])[j]? :=λx⟨_,_,U⟩ j b=>by
    grind [yS]
   obtain⟨d,e,U,N⟩:=hen;have Z:∃x,Ae Θ Γ R base ext n (front[n]' fC) x:=by
    rcases N with⟨hw,⟨g,ha,p,v,δ,hcalm,J,hnm⟩|⟨g,ha,p,q,y,X,J,u⟩|⟨g,W,υ,hυ,B⟩|⟨⟨g,W⟩,p,ρ,os,hrel,J,l⟩⟩|hun
    .exact⟨vF R.F ⟨d,v,[],δ,[]⟩,ac2,U,.inl ⟨hw,.inl ⟨g,ha,p,v,δ,ac2,J,ac2,ac2⟩⟩⟩
    .exact⟨vF R.F ⟨d,.sv (.one (.ref (d*64+1))),[],[(d*64+1,y)],[q]⟩,ac2,U,.inl ⟨hw,.inr (.inl ⟨g,ha,p,q,y,X,J,ac2,ac2⟩)⟩⟩
    .exact⟨⟨d,.tJ [],υ,[],[]⟩,e,U,.inl ⟨hw,.inr (.inr (.inl ⟨g,W,υ,hυ,B,rfl⟩))⟩⟩
    .have hne:∃t,ρ.R t:=by
      unfold acE at hrel;split at hrel
      case h_2=>cases hrel
      next f args xq hop=>
      split at hrel
      case h_2=>cases hrel
      next ms con Y=>
      split at hrel
      case h_2=>cases hrel
      next I os' aic=>
      split at hrel
      case h_2=>cases hrel
      split at hrel
      case h_2=>cases hrel
      next q ρ' u=>
      cases hrel;exact((hE.ayC f ms con Y).1 I _ ρ u J).1
     obtain⟨t,ht⟩:=hne;obtain⟨⟨v,υ,δ⟩,hres⟩:=l t ht;exact⟨⟨d,v,υ,δ,[]⟩,e,U,.inl ⟨hw,.inr (.inr (.inr ⟨⟨g,W⟩,rfl,p,ρ,os,t,hrel,J,ht,l,hres⟩))⟩⟩
    .exact⟨skipped d,e,U,.inr ⟨hun,rfl⟩⟩
   obtain⟨x,Z⟩:=Z;refine⟨ext++[x],by simp[C],A x (Z.agree (E x ⟨d,e,U⟩)),λj b hLj=>?_⟩
   grind
end Go.Fw
namespace Go.Fw
open Go
variable {P:Program}
def handsOn(o:Oper):Option Operand:=match o.op,o.guard with
 |.move x,none=>some x
 |.extract x _,none=>some x
 |_,_=>none
def Operand.YZ(d:Nat):Operand->Bool
 |.tmp t=>!(Nat.beq t d)
 |_=>true
def aok(d:Nat)(o:Oper):Bool:=match o.op,o.guard with
 |.move x,none|.assign x,none|.extract x _,none=>Operand.YZ d x
 |.store _ a x,none=>Operand.YZ d a&&Operand.YZ d x
 |_,_=>false
def passes(f o:Oper):Bool:=match handsOn f,f.dst with
 |some x,some d=>aok d o&&(match o.dst with|some e=>!(Nat.beq e d)&&Operand.YZ e x|none=>true)
 |_,_=>false
variable {a:Act}
theorem eval_put_ne{d:Option Tmp}{v:Value}{x:Operand}(h:∀e,d=some e->Operand.YZ e x=true):(a.put d v).eval x=a.eval x:=by
 cases d with
 |none=>rfl
 |some e=>
  cases x with
  |tmp t=>
   have b:e≠t:=λh=>by simp_all [Operand.YZ]
   show(a.tmps.setIfInBounds e v).getD t undef=a.tmps.getD t undef
   simp_all
  |const _=>rfl
  |global _=>rfl
  |func _=>rfl
theorem put_comm{d e:Option Tmp}{u v:Value}(h:∀x y,d=some x->e=some y->x≠y):(a.put d u).put e v=(a.put e v).put d u:=by
 cases d with
 |none=>rfl
 |some x=>cases e with
  |none=>rfl
  |some y=>
   grind [Act.put,Array.setIfInBounds_comm]
theorem azG{f:Oper}{x:Operand}(X:handsOn f=some x):f.guard=none/\
 ((∃g:Value->Option Value,(∀b:Act,∀d,(match g (b.eval x)with|some u=>(execOp b.eval f).run P d=.ok (.value u) d|none=>∃m,(execOp b.eval f).run P d=m/\∀next Q,¬f.upon P b next Q m)))):=by
 unfold handsOn at X;split at X
 .next y hop hg=>cases X;exact⟨hg,λv=>some v,λb d=>qO⟩
 .next y ix hop hg=>
  cases X;refine⟨hg,λv=>match v with|.tuple vs=>vs[ix]? |_=>none,λb d=>?_⟩;cases R:b.eval x with
  |tuple vs=>
   cases e:vs[ix]? with
   |some u=>simp_all [execOp,Instr.extract]
   |none=>
    simp_all [execOp,Instr.extract,Oper.upon]
  |_=>simp[execOp,hop,R,Instr.extract,stuck,Oper.upon]
 .cases X
variable {o:Oper}
theorem axQ{d:Nat}(h:aok d o=true):o.guard=none/\
 (∀(a:Act)(v:Value),execOp (a.put (some d) v).eval o=execOp a.eval o)/\
 (∀(a:Act)(w:World),(∃v f,(execOp a.eval o).run P w=.ok (.value v) f)\/(∃f,(execOp a.eval o).run P w=.ok .skip f)\/∃x f,(execOp a.eval o).run P w=.halt x f):=by
 unfold aok at h;have i:∀(a:Act)(v:Value)(x:Operand),Operand.YZ d x=true->(a.put (some d) v).eval x=a.eval x:=λa v x Z=>eval_put_ne λe g=>jv;split at h
 · simp_all [execOp]
 · simp_all [execOp]
 .next x ix hop hg=>
  refine⟨hg,λa v=>?_,λa w=>?_⟩
  · grind [execOp]
  .cases hr:(Instr.extract (a.eval x) ix).run P w with
   |ok u f=>simp_all [execOp]
   |halt u f=>simp_all [execOp]
 .next t b x hop hg=>
  refine⟨hg,λa v=>?_,λa w=>?_⟩
  · grind [execOp]
  .cases hr:(Instr.storeAt t (a.eval b) (a.eval x)).run P w with
   |ok u f=>simp_all [execOp]
   |halt u f=>simp_all [execOp]
 .cases h
def stepW(P:Program)(ops:Array Oper)(Q:Exit->Act->World->Prop)(o:Oper)(K:Act->World->Prop)(a:Act)(w:World):Prop:=
 if Region.wanted o (yielded ops a.tmps)then o.wp P a w K Q\/(o.asks P a w/\LetsOut Q)else K (a.put o.dst undef) w
variable {ops:Array Oper}{Q:Exit->Act->World->Prop}{K:Act->World->Prop}{w:World}
theorem aeA{b:Act->World->Prop}(h:∀a w,K a w->b a w)(Y:stepW P ops Q o K a w):stepW P ops Q o b a w:=by
 grind [stepW,Oper.wp_mono]
theorem XQ(b:¬LetsOut Q)(d:o.guard=none):stepW P ops Q o K a w↔o.wp P a w K Q:=by
 grind [Region.wanted,stepW]
theorem aD0(D:∀c a w,¬Q (.panic c) a w)(r:¬LetsOut Q){f:Oper}(h:passes f o=true)
 (Y:stepW P ops Q f (stepW P ops Q o K) a w):stepW P ops Q o (stepW P ops Q f K) a w:=by
 unfold passes at h;split at h
 .next x d Z hd=>
  rw[aQm]at h;obtain⟨J,A⟩:=h;obtain⟨m,g,z⟩:=azG (P:=P) Z;obtain⟨n,j,q⟩:=axQ (P:=P) J;rw[XQ r m]at Y;rw[XQ r n];have t:∀(v:Value),(a.put o.dst v).eval x=a.eval x:=λv=>eval_put_ne λe E=>by
   grind
  have s:∀(u v:Value),(a.put f.dst u).put o.dst v=(a.put o.dst v).put f.dst u:=λu v=>put_comm λx y Z F=>by intro e;simp_all
  have l:=z a w;cases k:g (a.eval x)with
  |none=>
   grind [Oper.wp]
  |some u=>
   rw[k]at l;unfold Oper.wp at Y;rw[l]at Y;have Y:stepW P ops Q o K (a.put f.dst u) w:=Y;rw[XQ r n]at Y;unfold Oper.wp at Y ⊢;rw[hd,j]at Y;rw[← hd]at Y;have b:∀(v:Value)(i:World),K ((a.put f.dst u).put o.dst v) i->stepW P ops Q f K (a.put o.dst v) i:=by
    intro v i B;rw[XQ r m];have C:=z (a.put o.dst v) i;rw[t,k]at C;unfold Oper.wp;rw[C];show K _ _
    grind
   rcases q a w with⟨v,i,hr⟩|⟨i,hr⟩|⟨y,i,hr⟩
   .rw[hr]at Y ⊢;exact b v i Y
   .rw[hr]at Y ⊢;exact b undef i Y
   .rw[hr]at Y;cases y<;>simp only[Oper.upon]at Y
    grind
 .cases h
def V6(P:Program)(ops:Array Oper)(Q:Exit->Act->World->Prop)(K:Act->World->Prop):List Oper->Act->World->Prop
 |[]=>K
 |o::r=>stepW P ops Q o (V6 P ops Q K r)
theorem am1{ops:Array Oper}{Q:Exit->Act->World->Prop}:∀(l:List Oper),V6 P ops Q (Q .normal) l=wpList P ops Q l
 |[]=>rfl
 |o::r=>by rw[V6,am1 r];rfl
theorem aol{ops:Array Oper}{Q:Exit->Act->World->Prop}(d:∀c a w,¬Q (.panic c) a w)(b:¬LetsOut Q){o:Oper}{K:Act->World->Prop}(B:List Oper):
 ∀(A:List Oper)(a:Act)(w:World),(∀f∈A,passes f o=true)->V6 P ops Q K (A++o::B) a w->stepW P ops Q o (V6 P ops Q K (A++B)) a w
 |[],_,_,_,hs=>hs
 |f::A,a,w,h,hs=>by exact aD0 d b (h f aQr) (aeA (λa w e=>aol d b B A a w (λf X=>h f (aQo _ X)) e) hs)
theorem wpOp_step{i:Nat}(z:ops[i]? =some o):wpOp P ops Q i K a w↔stepW P ops Q o K a w:=by
 grind [wpOp,stepW]
theorem aiv{listed:Array Bool}(d:∀i j,listed.getD i false=true->((masks ops.toList []).getD i 0).testBit j=true->listed.getD j false=true){i:Nat}(z:ops[i]? =some o)
 (D:i∈Region.ready .any ops listed) (j:Nat) (h:((masks ops.toList []).getD i 0).testBit j=true):listed.getD j false=true:=by
 obtain⟨l,k,H,b⟩:=L6.1 D;obtain⟨e,g,U,f⟩:=aFH (ops:=ops.toList) (i:=i) (o:=o) (by simpa using z) h
 grind
theorem aHJ(hQ:∀c a w,¬Q (.panic c) a w)(hO:¬LetsOut Q){t0:Nat}{S:Nat->Prop}
 (M:∀i o j f,ops[i]? =some o->ops[j]? =some f->j<i->t0<=i\/(S i/\S j)->((masks ops.toList []).getD i 0).testBit j=true\/(S j/\passes f o=true)) (hS:∀j,S j->j<t0)
 (hlt:∀i o,ops[i]? =some o->(masks ops.toList []).getD i 0<2 ^ i):
 ∀(n:Nat)(F:List (Nat×Oper))(l:List Oper)(k:Nat)(listed:Array Bool)(a:Act)(w:World),t0<=k->k<=ops.size->(∀j,l[j]? =ops[k+j]?)->listed.size=ops.size->
  (∀x∈F,ops[x.1]? =some x.2/\S x.1)->F.Pairwise (λx y=>x.1<y.1)->
  (∀i,i<ops.size->(listed.getD i false=true↔i<k/\∀x∈F,x.1≠i))->
  (∀i j,listed.getD i false=true->((masks ops.toList []).getD i 0).testBit j=true->listed.getD j false=true)->
  F.length+ops.size<=k+n->V6 P ops Q (Q .normal) (F.map (·.2)++l) a w->wpAny P .any ops Q n listed a w:=by
 intro n;have aLp:∀{i:Nat}{o:Oper},ops[i]? =some o->∀e∈o.after,Region.binds .any e=true->e.on<i:=by
  intro i o d e g U;have aD1:=awI (ops:=ops.toList) (i:=i) (o:=o) adX g U
  grind [yS]
 have aKd:∀(k:Nat)(l:List Oper)(listed:Array Bool),(∀j,l[j]? =ops[k+j]?)->listed.size=ops.size->(∀i,i<ops.size->(listed.getD i false=true↔i<k/\∀x∈([]:List (Nat×Oper)),x.1≠i))->l=[]->Region.ready .any ops listed=[]:=by
  intro k l listed W s q hnil;have hend:ops.size<=k:=by
   rcases aQE k ops.size with h|h
   .have:=W 0;grind
   .exact h
  refine List.eq_nil_iff_forall_not_mem.2 λi D=>?_
  grind [L6]
 induction n with
 |zero=>
  intro F l k listed a w hk hkz W s I J q Y X R;have hk2:ops.size<=k/\F.length=0:=fC;obtain⟨hk2,hF0⟩:=hk2;have hFn:F=[]:=aQ1.1 hF0;subst hFn;have hln:l=[]:=by
   cases l with
   |nil=>rfl
   |cons o l=>have:=W 0;grind
  subst hln;exact wpAny_done (aKd k [] listed W s q rfl) R 0
 |succ n ih=>
  intro F l k listed a w hk hkz W s I J q Y X R;have H:∀i,i<listed.size->∀j,(listed.setIfInBounds i true).getD j false=(if j=i then true else listed.getD j false):=by
   intro i D j;split
   · simp_all
   .next e=>exact getD_set_ne false (aSG e)
  have T:∀i o,ops[i]? =some o->i∈Region.ready .any ops listed->∀j m,(listed.setIfInBounds i true).getD j false=true->((masks ops.toList []).getD j 0).testBit m=true->(listed.setIfInBounds i true).getD m false=true:=by
   intro i o d D j m hj hm;obtain⟨hi1,_⟩:=aQw.1 d
   grind [aiv]
  refine⟨λhnone=>?_,λi D=>?_⟩
  .cases F with
   |cons x F=>
    exfalso;obtain⟨C,E⟩:=I x aQr;have aPO:=hS _ E;obtain⟨hxs,_⟩:=aQw.1 C;have u:listed.getD x.1 true=false:=by
     grind
    have:x.1∈Region.ready .any ops listed:=by
     grind [L6,List.pairwise_cons]
    grind
   |nil=>
    cases l with
    |nil=>exact R
    |cons o l=>
     exfalso;have d:ops[k]? =some o:=by simpa using(W 0).symm
     obtain⟨hks,_⟩:=aQw.1 d;have u:listed.getD k true=false:=by
      rw[aaE fC];cases U:listed.getD k false with
      |false=>rfl
      |true=>have:=((q k hks).1 U).1;omega
     have:k∈Region.ready .any ops listed:=by refine L6.2 ⟨o,d,u,λe g U=>?_⟩;have aLq:=aLp d e g U;exact(q e.on fC).2 ⟨fC,λy b=>by cases b⟩
     grind
  .obtain⟨o,d,hn,_⟩:=L6.1 D;obtain⟨his,_⟩:=aQw.1 d;have u:listed.getD i false=false:=by rw[← aaE fC];exact hn
   have r:=aiv Y d D;rw[wpOp_step d];by_cases L:∃x∈F,x.1=i
   .obtain⟨x,hxF,rfl⟩:=L;obtain⟨A,B,rfl⟩:=List.append_of_mem hxF;obtain⟨C,E⟩:=I x hxF;rw[d]at C;have hxo:x.2=o:=(Option.some.inj C).symm;have hpA:∀y∈A,y.1<x.1:=λy b=>(aRF.1 J).2.2 y b x aQr;have hpB:∀y∈B,x.1<y.1:=λy b=>(aQ5.1 (aRF.1 J).2.1).1 y b;have hw2:V6 P ops Q (Q .normal) (A.map (·.2)++o::(B.map (·.2)++l)) a w:=by rw[aRq,aQB,hxo,aQL]at R;exact R
    refine aeA ?_ (aol hQ hO _ _ a w (λf X=>?_) hw2)
    .intro a' w' h';refine ih (A++B) l k _ a' w' hk hkz W (by simpa using s) (λy b=>I y ?_) ?_ ?_ (T x.1 o d D) ?_ (by rw[aRq,aQL];exact h')
     .rcases aQM.1 b with h|h
      .exact aQ0 _ h
      .exact aRm _ (aQo _ h)
     .rw[aRF]at J ⊢;exact⟨J.1,(aQ5.1 J.2.1).2,λy b z hz=>J.2.2 y b z (aQo _ hz)⟩
     .intro j hj;rw[H x.1 fC];split
      .next e=>
       subst e;refine⟨λ_=>⟨by have:=hS _ E;omega,λy b=>?_⟩,λ_=>rfl⟩;rcases aQM.1 b with h|h
       .have:=hpA y h;omega
       .have:=hpB y h;omega
      .next e=>
       rw[q j hj];refine aRG λ_=>⟨λh y b=>?_,λh y b=>?_⟩
       .rcases aQM.1 b with h'|h'
        .exact h y (aQ0 _ h')
        .exact h y (aRm _ (aQo _ h'))
       .rcases aQM.1 b with h'|h'
        .exact h y (aQ0 _ h')
        .rcases aQt.1 h' with rfl|h'
         .exactλe'=>e e'.symm
         .exact h y (aRm _ h')
     .simp only[aQu,aQz]at X ⊢;omega
    .obtain⟨y,b,rfl⟩:=aQW.1 X;obtain⟨t,N⟩:=I y (aQ0 _ b);obtain⟨O,_⟩:=aQw.1 t;rcases M x.1 o y.1 y.2 d t (hpA y b) (.inr ⟨E,N⟩)with U|U
     .have:=((q y.1 O).1 (r y.1 U)).2 y (aQ0 _ b) rfl;exact this.elim
     .exact U.2
   .have hge:k<=i:=by
     rcases aQE i k with h|h
     .have:=(q i his).2 ⟨h,λx Z e=>L ⟨x,Z,e⟩⟩;rw[u]at this;cases this
     .exact h
    have hik:i=k:=by
     rcases aQE k i with h|h
     .exfalso;have hok:∃f,ops[k]? =some f:=⟨ops[k]' fC,ni⟩;obtain⟨f,hof⟩:=hok;rcases M i o k f d hof h (.inl fC)with U|U
      .have:=((q k fC).1 (r k U)).1;omega
      .have:=hS _ U.1;omega
     .omega
    subst hik;cases l with
    |nil=>have:=W 0;rw[aSv,d]at this;cases this
    |cons o' l=>
     have ho':ops[i]? =some o':=by simpa using(W 0).symm
     rw[d]at ho';cases ho';refine aeA ?_ (aol hQ hO _ _ a w (λf X=>?_) R)
     .intro a' w' h';refine ih F l (i+1) _ a' w' fC fC (λj=>by have:=W (j+1);simpa[Nat.add_assoc,Nat.add_comm 1 j]using this) (by simpa using s) I J ?_ (T i o d D) fC h';intro j hj;rw[H i fC];split
      .next e=>subst e;exact⟨λ_=>⟨fC,λx Z e=>L ⟨x,Z,e⟩⟩,λ_=>rfl⟩
      .next e=>rw[q j hj];exact and_congr_left λ_=>fC
     .obtain⟨y,b,rfl⟩:=aQW.1 X;obtain⟨t,N⟩:=I y b;obtain⟨O,_⟩:=aQw.1 t;have:=hS _ N;rcases M i o y.1 y.2 d t fC (.inl hk)with U|U
      .exact(((q y.1 O).1 (r y.1 U)).2 y b rfl).elim
      .exact U.2
end Go.Fw
namespace Go.Fw
open Go
variable {P:Program} {w0:World} {M:Nat->Prop} {T:Ext} {γ γ':Nat->Value} {st:St} {a:Act} {w w':World} {Θ:mD} {Γ:nI}
def azH:Op->Bool
 |.store _ _ _=>false
 |.call {callee:=.builtin .append,.. }|.call {callee:=.builtin .copy,.. }|.call {callee:=.builtin .clear,.. }=>false
 |_=>true
def aD2(m:List Nat)(o:Oper):Bool:=match o.op,o.guard with
 |.call {callee:=.builtin .append,args,.. },none=>match args.toList with
  |.tmp t::_=>cZ m t
  |_=>false
 |_,_=>false
def madeBy(m:List Nat)(o:Oper):List Nat:=match o.op,o.dst with
 |.buildSlice _ _ _,some d=>d::m
 |.call {callee:=.builtin .append,.. },some d=>d::m
 |_,_=>m
def aiw:List Nat->List Oper->Nat
 |_,[]=>0
 |m,o::r=>match azH o.op||aD2 m o with|true=>aiw (madeBy m o) r+1|false=>0
def aix:List Nat->List Oper->Nat
 |_,[]=>0
 |m,o::r=>match azH o.op||(aD2 m o||G5 o.op)with|true=>aix (madeBy m o) r+1|false=>0
def aCQ(m:List Nat)(o:Oper):List Nat:=match o.op,o.dst with
 |.call {callee:=.value (.func _),.. },some d=>d::m
 |_,_=>madeBy m o
def aqK:List Nat->List Oper->Nat
 |_,[]=>0
 |m,o::r=>match azH o.op||(aD2 m o||G5 o.op)with|true=>aqK (aCQ m o) r+1|false=>0
def aiy:Nat->List Oper->List (Nat×Nat)
 |_,[]=>[]
 |i,o::r=>match o.op with
  |.call {callee:=.builtin .append,args,.. }=>match args.toList with
   |.tmp t::_=>(i,t*64+1)::aiy (i+1) r
   |_=>aiy (i+1) r
  |_=>aiy (i+1) r
def aFL(R:Reg):Bool:=R.A.all λx=>match idxOf R.D (x.2 / 64) 0 with
 |some j=>(R.ms.getD x.1 0).testBit j
 |none=>false
theorem azI{e q:Nat}:∀(A:List (Nat×Nat)),UQ A e q=true->(e,q)∈A
 |[],h=>o5
 |(e',q')::r,h=>by
  rw[UQ]at h;split at h
  .next hb=>rw[aQm]at hb;rw[aQq hb.1,aQq hb.2];exact aQr
  .exact aQo _ (azI r h)
theorem aBR{R:Reg}(h:aFL R=true)(e q:Nat)(k:UQ R.A e q=true):∃j,idxOf R.D (q / 64) 0=some j/\(R.ms.getD e 0).testBit j=true:=by
 have:=aQA.1 h _ (azI _ k)
 grind
def V7:Nat->List Nat->Bool
 |_,[]=>true
 |i,m::r=>Nat.beq (m+1) (2 ^ i)&&V7 (i+1) r
def aFM(t0:Nat)(b:List Nat):List Nat:=(List.range t0).filter λj=>!((b.drop t0).all λm=>m.testBit j)
def aqL(ops:List Oper)(j i:Nat):Bool:=match ops[j]?,ops[i]? with
 |some f,some o=>passes f o
 |_,_=>false
def lateRow(ops:List Oper)(S:List Nat)(m i:Nat):Bool:=(List.range i).all λj=>m.testBit j||(cZ S j&&aqL ops j i)
def azJ(ops:List Oper)(t0:Nat)(b:List Nat)(S:List Nat):Bool:=
 (List.range ops.length).all λi=>match Nat.ble t0 i with
   |true=>Nat.blt (b.getD i 0) (2 ^ i)&&lateRow ops S (b.getD i 0) i
   |false=>match cZ S i with
    |true=>S.all λj=>Nat.ble i j||((b.getD i 0).testBit j||aqL ops j i)
    |false=>true
def acG(ops:List Oper)(t0:Nat)(b:List Nat):Bool:=match V7 t0 (b.drop t0)with
 |true=>true
 |false=>azJ ops t0 b (aFM t0 b)
def front(l:List Oper):Nat:=match acG l (aiw [] l) (masks l [])with
 |true=>aiw [] l
 |false=>match acG l (aix [] l) (masks l [])with|true=>aix [] l|false=>aqK [] l
def azK(l:List Oper):Bool:=l.all λo=>match o.guard with
 |some (g,_)=>match l[g]? with
  |some og=>og.dst.isSome
  |none=>false
 |none=>true
def aCR(n:Nat)(l:List Oper):Bool:=l.all λo=>match o.dst with|some d=>Nat.blt d n|none=>true
def aqM(own:Nat->Bool):List Oper->List Nat
 |[]=>[]
 |o::r=>match azl o.op,o.dst with
  |true,some d=>match own d with|true=>aqM own r|false=>d::aqM own r
  |_,_=>aqM own r
def auB(own:Nat->Bool)(l:List Oper)(s:St):St:=
 match aqM own l with
 |[]=>s
 |z=>s.freeze λo=>cZ z (o / 64)&&!(Nat.beq (o%64) 0)
def akY(d:Nat):List (Nat×Operand)->Bool
 |[]=>false
 |(_,.tmp t)::r=>Nat.beq t d||akY d r
 |_::r=>akY d r
def aMs(l:List Oper)(d:Nat):Bool:=l.any λb=>match b.op,b.dst with
 |.build _ ps,some e=>akY d ps.toList&&l.any λc=>match c.op with|.buildSlice _ _ qs=>akY e qs.toList|_=>false
 |_,_=>false
def aeB(b:List Oper):List Oper->List Nat
 |[]=>[]
 |o::r=>match akX o.op,o.dst with
  |true,some d=>match aMs b d with|true=>d::aeB b r|false=>aeB b r
  |_,_=>aeB b r
def aKe(own:Nat->Bool)(l:List Oper):List Nat:=(aqM own l++aeB l l).filter λd=>!((aiy 0 l).any λx=>Nat.beq x.2 (d*64+1))
def yT(n:Nat)(own:Nat->Bool)(Γ:nI)(U:List Nat)(ops:List Oper):Reg:=⟨dstsOf n 0 (ops.take (front ops)),U,masks ops [],acD Γ 0 (ops.take (front ops)),aiy 0 (ops.take (front ops)),n,aKe own (ops.take (front ops))⟩
def aaz(Θ:mD)(Γ:nI)(own:Nat->Bool)(U:List Nat)(ops:List Oper)(K:St->Prop)(st:St):Prop:=
 match nodup (yT st.n own Γ U ops).D&&(aCR st.n (ops.take (front ops))&&(acG ops (front ops) (yT st.n own Γ U ops).ms&&((yT st.n own Γ U ops).E.all (SC (yT st.n own Γ U ops).ms (yT st.n own Γ U ops).E)&&(aFL (yT st.n own Γ U ops)&&azK ops))))with
 |true=>Ce Θ Γ (yT st.n own Γ U ops) (fE (yT st.n own Γ U ops).D st) (λb=>
   runs Θ Γ own ops K (ops.drop (front ops)) (auB own (ops.take (front ops)) (after (fE (yT st.n own Γ U ops).D st) b λ_=>true))) 0 (ops.take (front ops)) []
 |false=>False
theorem awO:∀(m:List Nat)(l:List Oper),aiw m l<=l.length
 |_,[]=>aQp _
 |m,o::r=>by
  rw[aiw];split
  .have:=awO (madeBy m o) r;rw[aQz];omega
  .exact aQx _
theorem awP:∀(m:List Nat)(l:List Oper),aix m l<=l.length
 |_,[]=>aQp _
 |m,o::r=>by
  rw[aix];split
  .have:=awP (madeBy m o) r;rw[aQz];omega
  .exact aQx _
theorem awQ:∀(m:List Nat)(l:List Oper),aqK m l<=l.length
 |_,[]=>aQp _
 |m,o::r=>by
  rw[aqK];split
  .have:=awQ (aCQ m o) r;rw[aQz];omega
  .exact aQx _
theorem aHK(l:List Oper):front l<=l.length:=by
 grind [front,awO,awP,awQ]
variable {i:Nat}{o:Oper}
theorem axR{l:List Oper}(h:azK l=true){g:Nat}{b:Bool}(z:l[i]? =some o)(f:o.guard=some (g,b)):∃e d,l[g]? =some e/\e.dst=some d:=by
 have:=aQA.1 h o (aQU z)
 grind [Option.isSome_iff_exists]
theorem azL{n:Nat}{l:List Oper}(h:aCR n l=true){d:Nat}(z:l[i]? =some o)(e:o.dst=some d):d<n:=by
 have:=aQA.1 h o (aQU z)
 simp_all
theorem am2:∀{l:List Nat}{k:Nat},V7 k l=true->∀i m,l[i]? =some m->m+1=2 ^ (k+i)
 |[],_,_,i,m,hm=>by simp at hm
 |x::r,k,h,0,m,hm=>by
  grind [V7,Nat.eq_of_beq_eq_true]
 |x::r,k,h,i+1,m,hm=>by
  rw[V7,aQm]at h;have:=am2 h.2 i m (by simpa using hm)
  grind
theorem aiz:∀(l:List Oper)(b:List Nat),(masks l b).length=b.length+l.length
 |[],b=>by simp[masks]
 |o::r,b=>by rw[masks,aiz r];simp;omega
theorem aqN:∀{l:List Nat},nodup l=true->∀(i j:Nat)(x:Nat),l[i]? =some x->l[j]? =some x->i=j
 |[],_,i,j,x,hi,_=>by simp at hi
 |y::r,h,i,j,x,hi,hj=>by
  rw[nodup,aQm]at h;have b:y ∉ r:=λk=>by have:=Bo.2 k;rw[this]at h;simp at h
  match i,j with
  |0,0=>rfl
  |0,j+1=>simp at hi hj;exact(b (hi▸aQU hj)).elim
  |i+1,0=>simp at hi hj;exact(b (hj▸aQU hi)).elim
  |i+1,j+1=>rw[aqN h.2 i j x hi hj]
theorem XR{n:Nat}:∀{l:List Oper}{k:Nat},(∀(i:Nat)(o:Oper),l[i]? =some o->∃d,CY n (k+i) o=some d)->∀(i:Nat)(o:Oper)(d:Nat),l[i]? =some o->CY n (k+i) o=some d->(dstsOf n k l)[i]? =some d
 |[],_,_,i,o,d,hi,_=>by simp at hi
 |x::r,k,h,i,o,d,hi,hd=>by
  obtain⟨e,g⟩:=h 0 x rfl;rw[aSv]at g;rw[dstsOf,g]
  match i with
  |0=>grind
  |i+1=>simp;exact XR (k:=k+1) (λj f b=>by rw[show k+1+j=k+(j+1)from fC];simp_all) i o d Uy jv
theorem azM{ops:List Oper}{S:List Nat}{m:Nat}(h:lateRow ops S m i=true){j:Nat}(b:j<i){f:Oper}(z:ops[i]? =some o)(X:ops[j]? =some f):m.testBit j=true\/(cZ S j=true/\passes f o=true):=by
 have:=aQA.1 h j (aQ8.2 b)
 grind [aqL]
theorem agv{ops:List Oper}{t0:Nat}{b S:List Nat}(h:azJ ops t0 b S=true)(z:ops[i]? =some o):
 (t0<=i->b.getD i 0<2 ^ i)/\∀{j:Nat}{f:Oper},ops[j]? =some f->j<i->t0<=i\/(cZ S i=true/\cZ S j=true)->(b.getD i 0).testBit j=true\/(cZ S j=true/\passes f o=true):=by
 obtain⟨D,_⟩:=aQC.1 z;have:=aQA.1 h i (aQ8.2 D)
 grind [Nat.blt_eq,azM,Nat.ble_eq_true_of_le,Bo,aqL,Nat.le_of_ble_eq_true]
theorem aqO(L:Nat->Bool):∀(n:Nat),((List.range n).filter λi=>!(L i)).length=QU L n
 |0=>rfl
 |n+1=>by
  rw[List.range_succ,aR4,aQu,aqO L n,QU];cases h:L n
  .simp[h,Nat.add_comm]
  .simp[h]
theorem azN(L:Nat->Bool){t0:Nat}(h:∀i,t0<=i->L i=false):∀(n:Nat),t0<=n->QU L n=QU L t0+(n-t0)
 |0,hn=>by
  grind
 |n+1,hn=>by
  rcases aQE n t0 with b|b
  .have:t0=n+1:=fC;subst this;simp
  .rw[QU,h n b,azN L h n b];simp only;omega
structure akZ(Θ:mD)(Γ:nI)(w0:World)(M:Nat->Prop)(T:Ext)(st:St)(R:Reg)(ops:Array Oper)(t0:Nat)(listed:Array Bool)(path:List iG)(γ:Nat->Value)(a:Act)(w:World):Prop where
 way:Way R ops t0 path
 size:listed.size=ops.size
 tail:∀i,t0<=i->listed.getD i false=false
 shut:∀i j,listed.getD i false=true->((masks ops.toList []).getD i 0).testBit j=true->listed.getD j false=true
 ok:∀j o x,ops[j]? =some o->path[j]? =some x->listed.getD j false=true->Ae Θ Γ R (fE R.D st) path j o x
 rel:Rel w0 M T γ (after (fE R.D st) path λi=>listed.getD i false) a w
variable {ops:Array Oper}
theorem aFN{G:oI}(hE:Ad P G Θ Γ w0 M){Q:Exit->Act->World->Prop}(hQ:∀c a w,¬Q (.panic c) a w)(hO:¬LetsOut Q){R:Reg}{t0:Nat}{K:List iG->Prop}(ht0:t0<=ops.size)(hms:R.ms=masks ops.toList [])
 (hRn:R.n=st.n) (hDn:∀i o d,ops[i]? =some o->i<t0->o.dst=some d->d<st.n) (hgd:∀i o g b,ops[i]? =some o->i<t0->o.guard=some (g,b)->∃og d,ops[g]? =some og/\og.dst=some d) (hcmp:∀e∈R.E,SC R.ms R.E e=true) (hEi:∀j o',ops[j]? =some o'->j<t0->I4 Γ o'.op=true->j∈R.E)
 (hA:∀e q,UQ R.A e q=true->∃j,idxOf R.D (q / 64) 0=some j/\(R.ms.getD e 0).testBit j=true)
 (aez:∀ext:List iG,ext.length<=t0->aoj Θ Γ R (fE R.D st) (ops.toList.take t0) ext->(ext.length=t0->K ext)/\∀o,(ops.toList.take t0)[ext.length]? =some o->Enabled Θ Γ R (fE R.D st) ext ext.length o)
 {S:Nat->Prop} (hfl:∀i o j f,ops[i]? =some o->ops[j]? =some f->j<i->t0<=i\/(S i/\S j)->((masks ops.toList []).getD i 0).testBit j=true\/(S j/\passes f o=true)) (hS:∀j,S j->j<t0)
 (hlt:∀i o,ops[i]? =some o->(masks ops.toList []).getD i 0<2 ^ i)
 (hend:∀m γ' a' w',K m->m.length=t0->Rel w0 M T γ' (after (fE R.D st) m λ_=>true) a' w'->wpList P ops Q (ops.toList.drop t0) a' w'):
 ∀(r:Nat)(listed:Array Bool)(m:List iG)(γ:Nat->Value)(a:Act)(w:World),akZ Θ Γ w0 M T st R ops t0 listed m γ a w->
  QU (λi=>listed.getD i false) ops.size<=r->wpAny P .any ops Q r listed a w:=by
 have aug:(ops.toList.take t0).length=t0:=ql;have hget:∀j o,(ops.toList.take t0)[j]? =some o↔j<t0/\ops[j]? =some o:=λj o=>by
  grind
 have fin:∀(listed:Array Bool)(m:List iG)(γ:Nat->Value)(a:Act)(w:World),akZ Θ Γ w0 M T st R ops t0 listed m γ a w->
  (∀i,i<t0->listed.getD i false=true)->wpList P ops Q (ops.toList.drop t0) a w:=by
  intro listed m γ a w I u;have hR:=I.rel;have hK:K m:=by refine(aez m (by rw[I.way.len];omega) λi o x D Z=>?_).1 I.way.len;obtain⟨C,O⟩:=(hget i o).1 D;exact I.ok i o x O Z (u i C)
  have hsame:after (fE R.D st) m (λi=>listed.getD i false)=after (fE R.D st) m λ_=>true:=by
   unfold after;have:∀(l:List iG)(j:Nat),j+l.length<=t0->pick l j (λi=>listed.getD i false)=pick l j λ_=>true:=by
    intro l
    induction l with
    |nil=>intros;rfl
    |cons y l ih=>
     grind [pick]
   rw[this m 0 (by rw[I.way.len];omega)]
  rw[hsame]at hR;exact hend m γ a w hK I.way.len hR
 have step:∀(listed:Array Bool)(m:List iG)(γ:Nat->Value)(a:Act)(w:World),akZ Θ Γ w0 M T st R ops t0 listed m γ a w->∀(i:Nat)(o:Oper),ops[i]? =some o->i<t0->listed.getD i false=false->
  (∀j,((masks ops.toList []).getD i 0).testBit j=true->listed.getD j false=true)->∀(K':Act->World->Prop),
  (∀s γ' a' w',akZ Θ Γ w0 M T st R ops t0 (listed.setIfInBounds i true) s γ' a' w'->K' a' w')->wpOp P ops Q i K' a w:=by
  intro listed m γ a w I i o ho hit hil E K' hK';obtain⟨W,hsz,htl,hcl,hok,hR⟩:=I;have hen:Enabled Θ Γ R (fE R.D st) m i o:=by
   obtain⟨ext,g1,g2,g3⟩:=fill hE.toEnvB (R:=R) (base:=fE R.D st) (front:=ops.toList.take t0) (path:=m) (L:=λi=>listed.getD i false)
    (λext N o' ho'=>(aez ext (by
      grind) N).2 o' ho')
    (λj o' x ho' Z hL=>hok j o' x ((hget j o').1 ho').2 Z hL) (by rw[W.len,aug]) (λj k hL hk=>hcl j k hL jv) i fC
   have:=(aez ext fC g2).2 o ((hget _ o).2 ⟨fC,jv⟩);rw[g1]at this;refine this.agree λj hj=>?_
   grind [yS]
  have B:∀j,(listed.setIfInBounds i true).getD j false=(if j=i then true else listed.getD j false):=by
   intro j;split
   .next e=>subst e;simp[Array.getD,show j<listed.size from fC]
   .next e=>exact getD_set_ne false (aSG e)
  refine aHI hE (L:=λi=>listed.getD i false) (L':=λj=>(listed.setIfInBounds i true).getD j false) W ht0 hit hRn hDn hgd hcmp hEi hA ho hen hok (λj k hL hk=>hcl j k hL jv) (λj hj=>E j jv) hil
   jv (λj hj=>jv) hR ?_
  intro x γ' a' w' ⟨y,Y,hxy⟩ Z hR';refine hK' (m.set i x) γ' a' w' ⟨W.set Y hxy,by simpa using hsz,?_,?_,?_,hR'⟩
  · grind
  .intro j k hj hk;rw[B]at hj ⊢
   grind
  .intro j o' z ho' hz hL;obtain⟨aPP,_⟩:=aQC.1 Y;by_cases e:j=i
   · grind
   .rw[aSc (aSG e)]at hz;rw[B,if_neg e]at hL;refine(hok j o' z ho' hz hL).agree λk hk=>?_
    grind [List.getElem?_set_ne]
 have pend:∀(F:List (Nat×Oper))(listed:Array Bool)(m:List iG)(γ:Nat->Value)(a:Act)(w:World),akZ Θ Γ w0 M T st R ops t0 listed m γ a w->
  (∀x∈F,ops[x.1]? =some x.2/\x.1<t0)->F.Pairwise (λx y=>x.1<y.1)->(∀i,i<t0->(listed.getD i false=true↔∀x∈F,x.1≠i))->
  V6 P ops Q (Q .normal) (F.map (·.2)++ops.toList.drop t0) a w:=by
  intro F
  induction F with
  |nil=>
   intro listed m γ a w I _ _ hL;rw[List.map_nil,aRP,am1]
   grind
  |cons x F ih=>
   intro listed m γ a w I hF J hL;obtain⟨hx1,hx2⟩:=hF x aQr;have hpx:=(aQ5.1 J).1;have hun:listed.getD x.1 false=false:=by
    grind
   refine(wpOp_step hx1).1 (step listed m γ a w I x.1 x.2 hx1 hx2 hun (λj hj=>?_) _ λs γ' a' w' I'=>?_)
   · grind [yS]
   .refine ih _ s γ' a' w' I' (λy Y=>hF y (aQo _ Y)) (aQ5.1 J).2 λi D=>?_;have hxs:x.1<listed.size:=by rw[I.size];exact(aQw.1 hx1).1
    by_cases e:i=x.1
    .subst e;refine⟨λ_ y Y=>by have:=hpx y Y;omega,λ_=>by simp[Array.getD,hxs]⟩
    .rw[getD_set_ne false (aSG e),hL i D];refine⟨λh y Y=>h y (aQo _ Y),λh y Y=>?_⟩;rcases aQt.1 Y with rfl|Y
     .exactλe'=>e e'.symm
     .exact h y Y
 have late:∀(r:Nat)(listed:Array Bool)(m:List iG)(γ:Nat->Value)(a:Act)(w:World),akZ Θ Γ w0 M T st R ops t0 listed m γ a w->QU (λi=>listed.getD i false) ops.size<=r->
  (∀i,i<t0->¬S i->listed.getD i false=true)->wpAny P .any ops Q r listed a w:=by
  intro r listed m γ a w I X hd;have hcount:=azN (λi=>listed.getD i false) I.tail ops.size ht0;have hlen:=aqO (λi=>listed.getD i false) t0;have t:∀x,x∈((List.range t0).filter λi=>!(listed.getD i false)).map (λi=>(i,(ops[i]?).getD default))↔∃i,i<t0/\listed.getD i false=false/\(i,(ops[i]?).getD default)=x:=by intro x;simp only[aQW,aQ4,aQ8,aRS,and_assoc]
  have aLs:∀i,i<t0->ops[i]? =some ((ops[i]?).getD default):=λi D=>by have:ops[i]? =some (ops[i]' fC):=ni;rw[this];rfl
  have aJz:(((List.range t0).filter λi=>!(listed.getD i false)).map (λi=>(i,(ops[i]?).getD default))).Pairwise (λx y=>x.1<y.1):=by rw[aRT];exact(List.pairwise_lt_range (n:=t0)).filter _
  refine aHJ hQ hO hfl hS hlt r (((List.range t0).filter λi=>!(listed.getD i false)).map (λi=>(i,(ops[i]?).getD default))) (ops.toList.drop t0) t0 listed a w (aQp _) ht0 (λj=>ni) I.size ?_ aJz ?_ I.shut ?_ ?_
  .intro x Z;obtain⟨i,C,O,rfl⟩:=(t x).1 Z;refine⟨aLs i C,aQX λhno=>?_⟩;have:=hd i C hno;rw[O]at this;cases this
  .intro i D;refine⟨λh=>⟨?_,λx Z e=>?_⟩,λ⟨C,O⟩=>?_⟩
   .rcases aQE i t0 with h'|h'
    .exact h'
    .rw[I.tail i h']at h;cases h
   .obtain⟨j,_,O,rfl⟩:=(t x).1 Z;subst e;rw[O]at h;cases h
   .cases U:listed.getD i false with
    |true=>rfl
    |false=>exact(O _ ((t _).2 ⟨i,C,U,rfl⟩) rfl).elim
  .rw[aQG,hlen];omega
  .refine pend _ listed m γ a w I (λx Z=>?_) aJz λi D=>⟨λh x Z e=>?_,λh=>?_⟩
   .obtain⟨i,C,_,rfl⟩:=(t x).1 Z;exact⟨aLs i C,C⟩
   .obtain⟨j,_,O,rfl⟩:=(t x).1 Z;subst e;rw[O]at h;cases h
   .cases U:listed.getD i false with
    |true=>rfl
    |false=>exact(h _ ((t _).2 ⟨i,D,U,rfl⟩) rfl).elim
 intro r
 induction r with
 |zero=>
  intro listed m γ a w I X;have hall:∀i,i<ops.size->listed.getD i false=true:=azD (L:=λi=>listed.getD i false) ops.size fC;exact late 0 listed m γ a w I X λi D _=>hall i fC
 |succ r ih=>
  intro listed m γ a w I X;by_cases u:∀i,i<t0->¬S i->listed.getD i false=true
  .exact late (r+1) listed m γ a w I X u
  .obtain⟨W,hsz,htl,hcl,hok,hR⟩:=id I;have hex:∃i,i<t0/\¬S i/\listed.getD i false=false:=by
    refine aQX λhno=>u λi D H=>?_;cases hl:listed.getD i false with
    |true=>rfl
    |false=>exact(hno ⟨i,D,H,hl⟩).elim
   obtain⟨i1,hi1,hS1,hl1⟩:=hex;obtain⟨i0,hi0,hl0,hmin⟩:=least (p:=λi=>listed.getD i false=false) t0 ⟨i1,hi1,hl1⟩;have aFO:i0∈Region.ready .any ops listed:=by
    have A:i0<ops.size:=fC;refine L6.2 ⟨ops[i0],by simp[A],by rw[aaE fC];exact hl0,λe he U=>?_⟩;have hoi:ops.toList[i0]? =some ops[i0]:=by simp[A]
    have aD1:=awI hoi he U;have aLq:e.on<i0:=by
     rcases aQE e.on i0 with h|h
     .exact h
     .rw[yS (hlt i0 ops[i0] (by simp[A])) h]at aD1;cases aD1
    cases hl:listed.getD e.on false with
    |true=>rfl
    |false=>exact(hmin e.on aLq hl).elim
   refine⟨λh=>(by rw[h]at aFO;cases aFO),λi D=>?_⟩;obtain⟨o,ho,H,hall⟩:=L6.1 D;obtain⟨A,_⟩:=aQw.1 ho;have hil:listed.getD i false=false:=by rw[← aaE fC];exact H
   have E:=aiv hcl ho D;have hit:i<t0:=by
    rcases aQE i t0 with h|h
    .exact h
    .have ho1:ops[i1]? =some (ops[i1]' fC):=ni;rcases hfl i o i1 _ ho ho1 fC (.inl h)with U|U
     .have:=E i1 U;rw[hl1]at this;cases this
     .exact(hS1 U.1).elim
   refine step listed m γ a w I i o ho hit hil E _ λs γ' a' w' I'=>ih _ s γ' a' w' I' ?_;have B:∀j,(listed.setIfInBounds i true).getD j false=(if j=i then true else listed.getD j false):=by
    intro j;split
    .next e=>subst e;simp[Array.getD,show j<listed.size from fC]
    .next e=>exact getD_set_ne false (aSG e)
   have:=aCO (L:=λi=>listed.getD i false) (L':=λj=>(listed.setIfInBounds i true).getD j false) (i:=i) hil (by simp only[B,if_true]) (λj hj=>by simp only[B,if_neg hj]) ops.size A;omega
theorem am3{t0:Nat}(h:V7 t0 ((masks ops.toList []).drop t0)=true)(z:ops[i]? =some o)(D:t0<=i):(masks ops.toList []).getD i 0+1=2 ^ i:=by
 have b:(masks ops.toList []).length=ops.size:=by rw[aiz];simp
 have d:((masks ops.toList []).drop t0)[i-t0]? =some ((masks ops.toList []).getD i 0):=by
  grind
 grind [am2]
theorem aFt{G:oI}(hE:Ad P G Θ Γ w0 M)(k:P.follows .mixedOrders=true){own:Nat->Bool}{U:List Nat}{id:Nat}{K:St->Prop}{Q:Exit->Act->World->Prop}(h:Rel w0 M T γ st a w)
 (hr:aaz Θ Γ own U ops.toList K st) (H:∀s γ' t w',K s->Rel w0 M T γ' s t w'->Q .normal t w'):(Code.region id ops true).wp P Q a w:=by
 unfold aaz at hr;split at hr
 case h_2=>exact hr.elim
 next B=>
 rw[aQm,aQm,aQm,aQm]at B;obtain⟨hnd,hlt,l,W,r⟩:=B;rw[aQm]at r;obtain⟨r,aOB⟩:=r;have ht0:front ops.toList<=ops.size:=by grind [aHK]
 have Y:(ops.toList.take (front ops.toList)).length=front ops.toList:=ql;have A:=λ(ext:List iG)(hle:ext.length<=front ops.toList)(N:aoj Θ Γ (yT st.n own Γ U ops.toList) (fE (yT st.n own Γ U ops.toList).D st) (ops.toList.take (front ops.toList)) ext)=>
  amU (ops.toList.take (front ops.toList)) [] [] ext rfl fC hr (by simpa using N)
 simp only[aRP,aQZ,aRl,Y]at A;have J:∃ext:List iG,ext.length=front ops.toList/\aoj Θ Γ (yT st.n own Γ U ops.toList) (fE (yT st.n own Γ U ops.toList).D st) (ops.toList.take (front ops.toList)) ext:=by
  obtain⟨ext,g1,g2,_⟩:=fill hE.toEnvB (R:=yT st.n own Γ U ops.toList) (base:=fE (yT st.n own Γ U ops.toList).D st) (front:=ops.toList.take (front ops.toList)) (path:=List.replicate (front ops.toList) (skipped 0)) (L:=λ_=>false)
   (λext N E ho'=>(A ext (by
     grind) N).2 E ho') (λ_ _ _ _ _ h=>o5) (by simp[Y]) (λ_ _ h=>o5) (front ops.toList) fC
  grind
 obtain⟨I,hl0,hc0⟩:=J;have aLu:∀i,i<front ops.toList->∃o d,ops[i]? =some o/\(ops.toList.take (front ops.toList))[i]? =some o/\CY st.n i o=some d/\(yT st.n own Γ U ops.toList).ms.getD i 0<2 ^ i:=by intro i D;have z:ops[i]? =some (ops[i]' fC):=ni;have ho2:(ops.toList.take (front ops.toList))[i]? =some (ops[i]' fC):=jv;have Z:I[i]? =some (I[i]' fC):=ni;obtain⟨C,O,_⟩:=hc0 i _ _ ho2 Z;exact⟨_,_,z,ho2,C,O⟩
 have m:∀(i:Nat)(o:Oper),(ops.toList.take (front ops.toList))[i]? =some o->∃d,CY st.n (0+i) o=some d:=by
  grind
 have hbound:∀i o,ops[i]? =some o->front ops.toList<=i->(masks ops.toList []).getD i 0<2 ^ i:=by
  intro i o z D;unfold acG at l;split at l
  .next B=>have:=am3 (show V7 _ ((masks ops.toList []).drop _)=true from B) z D;omega
  .exact(agv l (by simpa using z)).1 D
 have aMt:∃S:Nat->Prop,(∀i o j f,ops[i]? =some o->ops[j]? =some f->j<i->front ops.toList<=i\/(S i/\S j)->((masks ops.toList []).getD i 0).testBit j=true\/(S j/\passes f o=true))/\∀j,S j->j<front ops.toList:=by
  unfold acG at l;split at l
  .next B=>
   refine⟨λ_=>False,λi o j f z _ hj D=>.inl ?_,λ_ h=>h.elim⟩;rcases D with D|D
   .have C:=am3 (show V7 _ ((masks ops.toList []).drop _)=true from B) z D;have O:(masks ops.toList []).getD i 0=2 ^ i-1:=fC
    grind
   grind
  .refine⟨λj=>cZ (aFM (front ops.toList) (yT st.n own Γ U ops.toList).ms) j=true,λi o j f z X hj D=>?_,λj hj=>?_⟩
   .exact(agv l (by simpa using z)).2 (by simpa using X) hj D
   .have:=Bo.1 hj;exact aQ8.1 (aQ4.1 this).1
 obtain⟨S,aNG,hS⟩:=aMt
 let u:List iG:=(ops.toList.take (front ops.toList)).mapIdx λi o=>skipped ((CY st.n i o).getD 0)
 have q:∀(i:Nat)(x:iG),u[i]? =some x->∃o,(ops.toList.take (front ops.toList))[i]? =some o/\CY st.n (0+i) o=some x.d:=by
  grind [skipped]
 have W0:Way (yT st.n own Γ U ops.toList) ops (front ops.toList) u:=by
  refine⟨jv,λi o x z Z=>?_,λx Z=>?_,λi j x y Z F hxy=>?_,λi x Z=>?_⟩
  .obtain⟨E,C,O⟩:=q i x Z;obtain⟨D,_⟩:=aQC.1 C;rw[aRY fC]at C;have:ops[i]? =some E:=by simpa using C
   rw[z]at this;cases this;rw[aRl]at O;exact O
  .obtain⟨i,D⟩:=aSb Z;obtain⟨E,C,O⟩:=q i x D;exact Bo.2 (aqH _ 0 i C O)
  .obtain⟨o1,C,O⟩:=q i x Z;obtain⟨o2,h3,h4⟩:=q j y F;have g1:=XR m i o1 x.d C O;have g2:=XR m j o2 y.d h3 h4;rw[← hxy]at g2;exact aqN hnd i j x.d g1 g2
  .obtain⟨o1,C,O⟩:=q i x Z;have:=awM _ 0 i x.d hnd (XR m i o1 x.d C O)
   grind
 refine Code.wp_mono (Q:=λe t w'=>match e with|.normal=>∃s γ',K s/\Rel w0 M T γ' s t w'|_=>False) (λe t w' he=>?_) ?_
 · grind
 refine wp_region_any k ?_;refine aFN (w0:=w0) (M:=M) (T:=T) hE (λ_ _ _ h=>h) (λ⟨_,_,h⟩=>h) (R:=yT st.n own Γ U ops.toList) (t0:=front ops.toList) ht0 rfl rfl ?_ (λi o g b z _ hg=>by
  grind [axR]) (λe he=>aQA.1 W e he) ?_ (aBR r) A aNG hS ?_ ?_ ops.size _ u γ _ _
  ⟨W0,ni,?_,?_,?_,?_⟩ ?_
 .intro i o d z D hd;exact azL hlt (i:=i) jv hd
 .intro j E ho' hj he;have:=aqJ (Γ:=Γ) (ops.toList.take (front ops.toList)) 0 j E jv he;rw[aRl]at this;exact this
 .intro i o z;rcases aQE i (front ops.toList)with D|D
  .obtain⟨_,_,_,_,_,h⟩:=aLu i D;exact h
  grind
 .intro path γ' t w' hK _ hR;have aPx:Rel w0 M T γ' (auB own (ops.toList.take (front ops.toList)) (after (fE (yT st.n own Γ U ops.toList).D st) path λ_=>true)) t w':=by
   unfold auB;split
   .exact hR
   .exact hR.freeze _
  grind [XI]
 .intro i _;simp[Array.getD]
 .intro i j D;exfalso;simp[Array.getD]at D
 .intro j o x _ _ D;exfalso;simp[Array.getD]at D
 .have:=(h.drew (w.drawn+1))|>λh=>aHF h (yT st.n own Γ U ops.toList).D;rw[aDW (λi=>by simp[Array.getD])];exact this
 .have:∀n,QU (λi=>(Array.replicate ops.size false).getD i false) n<=n:=by
   intro n
   induction n with
   |zero=>exact aQp _
   |succ n ih=>grind [QU]
  exact this _
end Go.Fw
