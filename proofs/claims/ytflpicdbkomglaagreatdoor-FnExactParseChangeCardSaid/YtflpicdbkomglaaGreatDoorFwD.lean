import Derived.Test.YtflpicdbkomglaaGreatDoorFwB
namespace Go.Fw
open Go
variable {P:Program} {w0:World} {M:Nat->Prop} {T:Ext} {γ γ':Nat->Value} {st:St} {a:Act} {w w':World} {Θ:fU} {Γ:iT}
structure bP where
 d:Nat
 v:AV
 u:List (Nat×ay)
 δ:List (Nat×ay)
 k:List Nat
def wL(acc:List Nat):List Edge->Nat
 |[]=>0
 |e::r=>match Region.binds .any e with
  |true=>(2 ^ e.on|||acc.getD e.on 0)|||wL acc r
  |false=>wL acc r
def masks:List Oper->List Nat->List Nat
 |[],acc=>acc
 |o::r,acc=>masks r (acc++[wL acc o.after.toList])
def pick:List bP->Nat->(Nat->Bool)->List bP
 |[],_,_=>[]
 |x::r,j,m=>match m j with|true=>x::pick r (j+1) m|false=>pick r (j+1) m
def rQ:List bP->Nat->AV->AV
 |[],_,b=>b
 |x::r,t,b=>match Nat.beq t x.d with|true=>x.v|false=>rQ r t b
def lookO:List bP->Nat->Option ay->Option ay
 |[],_,b=>b
 |x::r,o,b=>match look x.δ o with|some y=>some y|none=>lookO r o b
def ku:List bP->Nat->Option ay
 |[],_=>none
 |x::r,o=>match ku r o with|some y=>some y|none=>look x.u o
def jd(base:St)(l:List bP):St:=
 {n:=base.n,tmps:=λt=>rQ l t (base.tmps t),ah:=λo=>match ku l o with|some y=>some y|none=>lookO l o (base.ah o)}
def jS:List bP->List Nat
 |[]=>[]
 |x::r=>x.k++jS r
def oL(l:List Nat)(st:St):St:=match l with|[]=>st|l=>st.kill (aH l)
def after(base:St)(path:List bP)(m:Nat->Bool):St:=oL (jS (pick path 0 m)) (jd base (pick path 0 m))
def Cell.touch(S:Nat->Bool):Cell->Bool
 |.ref o=>S o
 |_=>false
def SV.touch(S:Nat->Bool):SV->Bool
 |.one c=>c.touch S
 |.agg cs=>cs.any (Cell.touch S)
def AV.touch(S:Nat->Bool):AV->Bool
 |.undef=>false
 |.sv v=>v.touch S
 |.jH vs=>vs.any (SV.touch S)
 |.bW o _=>S o
 |.kG o _ _=>S o
 |.win o _ _=>S o
 |.lW _ _ _ _=>false
 |.dA cs _=>cs.any (Cell.touch S)
 |.fn _ caps=>caps.any λcs=>cs.any (Cell.touch S)
def ay.touch(S:Nat->Bool):ay->Bool
 |.var cs=>cs.any (Cell.touch S)
 |.arr _ _ _ _=>false
def St.TT(st:St)(L:List Nat):St:=match L with
 |[]=>st
 |L=>{n:=st.n,tmps:=λt=>match (st.tmps t).touch (aH L)with|true=>.undef|false=>st.tmps t,
      ah:=λo=>match aH L o with|true=>none|false=>match st.ah o with|some x=>(match x.touch (aH L)with|true=>none|false=>some x)|none=>none}
def VH(ms:List Nat)(i:Nat):List (Nat×Nat)->List Nat
 |[]=>[]
 |(e,q)::r=>match Nat.beq e i||((ms.getD i 0).testBit e||(ms.getD e 0).testBit i)with|true=>VH ms i r|false=>q::VH ms i r
def BB:List (Nat×Nat)->Nat->Nat->Bool
 |[],_,_=>false
 |(e,q)::r,i,o=>match Nat.beq e i&&Nat.beq q o with|true=>true|false=>BB r i o
def O8:Op->Bool
 |.call {callee:=.builtin .append,.. }=>true
 |_=>false
def sS:Op->Bool
 |.store _ _ _=>true
 |_=>false
def oH(n i:Nat)(o:Oper):Option Nat:=match o.dst with
 |some d=>some d
 |none=>match sS o.op with|true=>some (n+i)|false=>none
def dstsOf(n:Nat):Nat->List Oper->List Nat
 |_,[]=>[]
 |i,o::r=>match oH n i o with|some d=>d::dstsOf n (i+1) r|none=>dstsOf n (i+1) r
def nodup:List Nat->Bool
 |[]=>true
 |x::r=>!(aH r x)&&nodup r
def bC(D:List Nat)(st:St):St:=st.kill λo=>aH D (o / 64)
def xA(d:Nat)(δ:List (Nat×ay)):Bool:=δ.all λx=>Nat.beq (x.1 / 64) d
def St.hide(st:St)(U:List Nat):St:={st with ah:=λo=>match aH U o with|true=>none|false=>st.ah o}
def rU(Γ:iT)(o:Op):Bool:=match o with
 |.call {callee:=.value (.func f),.. }=>match Γ f with|some (.eff _ _)=>true|_=>false
 |.store _ _ _=>true
 |_=>false
def IX(Γ:iT):Nat->List Oper->List Nat
 |_,[]=>[]
 |i,o::r=>match rU Γ o.op with|true=>i::IX Γ (i+1) r|false=>IX Γ (i+1) r
def yG(ms:List Nat)(E:List Nat)(i:Nat):Bool:=E.all λe=>Nat.beq e i||((ms.getD i 0).testBit e||(ms.getD e 0).testBit i)
def nX(st:St)(m:Mode)(x:AV):Option (Arg×Option Nat):=
 match m with
 |.val=>match kY st [x]with
  |some [a]=>some (a,none)
  |_=>none
 |m=>lK st m x
def qO(st:St):List Mode->List AV->Option (List Arg×List (Option Nat))
 |_,[]=>some ([],[])
 |ms,x::xs=>match nX st (ms.headD .val) x,qO st ms.tail xs with
  |some (a,o),some (as,os)=>some (a::as,o::os)
  |_,_=>none
def Arg.af7:Arg->Bool
 |.own _ _ _=>false
 |_=>true
def IY(Γ:iT)(st:St):Op->Option (Prop×He×(List (Option Nat)×Bool))
 |.call {callee:=.value (.func f),args,.. }=>match Γ f with
  |some (.eff ms con)=>match qO st ms (handed st args.toList [])with
   |some (vs,os)=>match zV (yB ms (handed st args.toList []))||vs.all Arg.af7 with
    |true=>match con vs with
     |some (p,ρ)=>some (p,ρ,(os,!(zV (yB ms (handed st args.toList [])))))
     |none=>none
    |false=>none
   |none=>none
  |_=>none
 |_=>none
def EW(Θ:fU)(st:St):Op->Option (List (Nat×ay))
 |.store t p x=>match st.ev x,Θ t,st.ev p with
  |.sv v,some ti,.bW o off=>match Nat.beq v.cells.length ti.cells.len,st.ah o with
   |true,some (.var cs)=>match Nat.ble (off+v.cells.length) cs.length with
    |true=>some [(o,.var (splice cs off v.cells))]
    |false=>none
   |_,_=>none
  |_,_,_=>none
 |_=>none
def abW(D U:List Nat)(υ:List (Nat×ay)):Bool:=υ.all λy=>aH U y.1&&!(aH D (y.1 / 64))
def IZ:List (Option Nat)->List Eff->Bool
 |[],_=>true
 |none::os,aF=>IZ os aF.tail
 |some _::os,aF=>match aF.head? with|some (.var _)=>IZ os aF.tail|_=>false
def Ai(D U:List Nat)(d:Nat)(st:St)(os:List (Option Nat)×Bool)(out:Out)(aF:List Eff):Option (AV×List (Nat×ay)×List (Nat×ay)):=
 match sJ os.1&&(Cj aF (out.take (d*64+1)).2&&(IZ os.1 aF&&(xA d (out.take (d*64+1)).2&&(!os.2||(out.made&&EN aF))))),jZ st os.1 aF with
 |true,some υ=>match υ.all λy=>aH U y.1&&!(aH D (y.1 / 64))with
  |true=>some ((out.take (d*64+1)).1,υ,(out.take (d*64+1)).2)
  |false=>none
 |_,_=>none
structure Reg where
 D:List Nat
 U:List Nat
 ms:List Nat
 E:List Nat
 A:List (Nat×Nat)
 n:Nat
 F:List Nat
def kQ(F:List Nat)(x:bP):bP:=match aH F x.d,x.v,x.u,x.δ with
 |true,.sv (.one (.ref q)),[],[(q',.arr e r l fr)]=>match Nat.beq q q' with
  |true=>⟨x.d,.sv (.one (.sl e r l fr)),[],[],x.k⟩
  |false=>x
 |_,_,_,_=>x
theorem lS(F:List Nat)(x:bP):(kQ F x).d=x.d/\(kQ F x).u=x.u/\(kQ F x).k=x.k/\∀y∈(kQ F x).δ,y∈x.δ:=by
 unfold kQ;split
 .next q q' e r l fr _ hv hu hδ=>
  split
  .exact⟨rfl,hu.symm,rfl,λy hy=>by cases hy⟩
  .exact⟨rfl,rfl,rfl,λy hy=>hy⟩
 .exact⟨rfl,rfl,rfl,λy hy=>hy⟩
def idxOf:List Nat->Nat->Nat->Option Nat
 |[],_,_=>none
 |x::r,t,j=>match Nat.beq t x with|true=>some j|false=>idxOf r t (j+1)
def Ry(R:Reg)(i t:Nat):Bool:=match idxOf R.D t 0 with
 |some j=>!(Nat.beq j i||((R.ms.getD i 0).testBit j||(R.ms.getD j 0).testBit i))
 |none=>false
def St.veil(st:St)(R:Reg)(i:Nat):St:={st with tmps:=λt=>match Ry R i t with|true=>.undef|false=>st.tmps t}
def viewAt(R:Reg)(base:St)(acc:List bP)(i:Nat):St:=
 ((match yG R.ms R.E i with
 |true=>after base acc (R.ms.getD i 0).testBit
 |false=>(after base acc (R.ms.getD i 0).testBit).hide R.U).veil R i).TT (VH R.ms i R.A)
def Eo(Θ:fU)(Γ:iT)(R:Reg)(base:St)(i:Nat)(o:Oper)(d:Nat)(acc:List bP)(K:List bP->Prop):Prop:=
 match rU Γ o.op with
 |true=>match sS o.op with
  |true=>match EW Θ (viewAt R base acc i) o.op with
   |some υ=>match abW R.D R.U υ with
    |true=>K (acc++[⟨d,.jH [],υ,[],[]⟩])
    |false=>False
   |none=>False
  |false=>match IY Γ (viewAt R base acc i) o.op with
   |some (p,ρ,os)=>p/\∀t,ρ.R t->match Ai R.D R.U d (viewAt R base acc i) os (ρ.out t) (ρ.aF t)with
    |some (v,υ,δ)=>K (acc++[⟨d,v,υ,δ,[]⟩])
    |none=>False
   |none=>False
 |false=>match O8 o.op with
  |true=>match yD Θ (viewAt R base acc i) o.op with
   |some (p,q,x)=>match aH R.D (q / 64)&&(!(Nat.beq (q / 64) d)&&BB R.A i q)with
    |true=>p/\K (acc++[kQ R.F ⟨d,.sv (.one (.ref (d*64+1))),[],[(d*64+1,x)],[q]⟩])
    |false=>False
   |none=>False
  |false=>match calm Θ Γ d (viewAt R base acc i) o.op with
   |some (p,v,δ)=>match xA d δ,quiet (viewAt R base acc i) o.op with
    |true,true=>K (acc++[kQ R.F ⟨d,v,[],δ,[]⟩])
    |true,false=>p/\K (acc++[kQ R.F ⟨d,v,[],δ,[]⟩])
    |false,_=>False
   |none=>False
def fix(g:Nat)(b:Bool)(acc:List bP):List bP:=
 match acc[g]? with
 |some x=>acc.set g {x with v:=.sv (.one (.bool b))}
 |none=>acc
def skipped(d:Nat):bP:=⟨d,.jH [],[],[],[]⟩
def pF(Θ:fU)(Γ:iT)(R:Reg)(base:St)(K:List bP->Prop):Nat->List Oper->List bP->Prop
 |_,[],acc=>K acc
 |i,o::r,acc=>match oH R.n i o,Nat.blt (R.ms.getD i 0) (2 ^ i)with
  |some d,true=>match o.guard with
   |none=>Eo Θ Γ R base i o d acc (pF Θ Γ R base K (i+1) r)
   |some (g,b)=>match (R.ms.getD i 0).testBit g,acc[g]? with
    |true,some x=>match x.v with
     |.sv (.one (.bool c))=>cond c
      (match b with
        |true=>Eo Θ Γ R base i o d (fix g true acc) (pF Θ Γ R base K (i+1) r)
        |false=>pF Θ Γ R base K (i+1) r (fix g true acc++[skipped d]))
      (match b with
        |false=>Eo Θ Γ R base i o d (fix g false acc) (pF Θ Γ R base K (i+1) r)
        |true=>pF Θ Γ R base K (i+1) r (fix g false acc++[skipped d]))
     |.jH _=>pF Θ Γ R base K (i+1) r (acc++[skipped d])
     |_=>False
    |_,_=>False
  |_,_=>False
def Wanted(R:Reg)(path:List bP)(i:Nat)(o:Oper):Prop:=
 o.guard=none\/∃g b y,o.guard=some (g,b)/\(R.ms.getD i 0).testBit g=true/\path[g]? =some y/\y.v=.sv (.one (.bool b))
def Rz(R:Reg)(path:List bP)(i:Nat)(o:Oper):Prop:=
 ∃g b y,o.guard=some (g,b)/\(R.ms.getD i 0).testBit g=true/\path[g]? =some y/\((∃c,y.v=.sv (.one (.bool c))/\c≠b)\/∃vs,y.v=.jH vs)
def nT(Θ:fU)(Γ:iT)(R:Reg)(base:St)(path:List bP)(i:Nat)(o:Oper)(x:bP):Prop:=
 oH R.n i o=some x.d/\(R.ms.getD i 0)<2 ^ i/\
 ((Wanted R path i o/\
    ((rU Γ o.op=false/\O8 o.op=false/\∃p v δ,calm Θ Γ x.d (viewAt R base path i) o.op=some (p,v,δ)/\p/\xA x.d δ=true/\x=kQ R.F ⟨x.d,v,[],δ,[]⟩)\/
     (rU Γ o.op=false/\O8 o.op=true/\∃p q y,yD Θ (viewAt R base path i) o.op=some (p,q,y)/\p/\(aH R.D (q / 64)=true/\q / 64≠x.d/\BB R.A i q=true)/\
       x=kQ R.F ⟨x.d,.sv (.one (.ref (x.d*64+1))),[],[(x.d*64+1,y)],[q]⟩)\/
     (rU Γ o.op=true/\sS o.op=true/\∃υ,EW Θ (viewAt R base path i) o.op=some υ/\abW R.D R.U υ=true/\x=⟨x.d,.jH [],υ,[],[]⟩)\/
     ((rU Γ o.op=true/\sS o.op=false)/\x.k=[]/\∃p ρ os t,IY Γ (viewAt R base path i) o.op=some (p,ρ,os)/\p/\ρ.R t/\
        (∀t,ρ.R t->∃r,Ai R.D R.U x.d (viewAt R base path i) os (ρ.out t) (ρ.aF t)=some r)/\
        Ai R.D R.U x.d (viewAt R base path i) os (ρ.out t) (ρ.aF t)=some (x.v,x.u,x.δ))))\/
  (Rz R path i o/\x=skipped x.d))
def Enabled(Θ:fU)(Γ:iT)(R:Reg)(base:St)(path:List bP)(i:Nat)(o:Oper):Prop:=
 ∃d,oH R.n i o=some d/\(R.ms.getD i 0)<2 ^ i/\
 ((Wanted R path i o/\
    ((rU Γ o.op=false/\O8 o.op=false/\∃p v δ,calm Θ Γ d (viewAt R base path i) o.op=some (p,v,δ)/\p/\xA d δ=true)\/
     (rU Γ o.op=false/\O8 o.op=true/\∃p q y,yD Θ (viewAt R base path i) o.op=some (p,q,y)/\p/\(aH R.D (q / 64)=true/\q / 64≠d/\BB R.A i q=true))\/
     (rU Γ o.op=true/\sS o.op=true/\∃υ,EW Θ (viewAt R base path i) o.op=some υ/\abW R.D R.U υ=true)\/
     ((rU Γ o.op=true/\sS o.op=false)/\∃p ρ os,IY Γ (viewAt R base path i) o.op=some (p,ρ,os)/\p/\
        ∀t,ρ.R t->∃r,Ai R.D R.U d (viewAt R base path i) os (ρ.out t) (ρ.aF t)=some r)))\/
  Rz R path i o)
theorem YT{g:Nat}{b:Bool}{acc:List bP}{x:bP}(h:acc[g]? =some x)(hv:x.v=.sv (.one (.bool b))):fix g b acc=acc:=by
 unfold fix;rw[h];obtain⟨hlt,hx⟩:=akc.1 h;refine alG λi=>?_;by_cases hi:i=g
 .subst hi;rw[ali hlt,h];cases x;simp at hv;simp[hv]
 .rw[akZ (alH hi)]
theorem WT:∀(l:List bP)(j:Nat)(m:Nat->Bool),(∀i,j<=i->m i=false)->pick l j m=[]
 |[],_,_,_=>rfl
 |x::r,j,m,h=>by rw[pick,h j (aj8 _)];exact WT r (j+1) m λi hi=>h i (by omega)
theorem Ht(r:List bP)(m:Nat->Bool):∀(l:List bP)(j:Nat),pick (l++r) j m=pick l j m++pick r (j+l.length) m
 |[],j=>by simp[pick]
 |x::l,j=>by rw[ak9,pick,pick,Ht r m l (j+1),aj6,show j+1+l.length=j+(l.length+1) by omega];cases m j<;>rfl
theorem D5{m:Nat->Bool}:∀(l l':List bP)(j:Nat),(∀i,m (j+i)=true->l[i]? =l'[i]?)->pick l j m=pick l' j m
 |[],[],_,_=>rfl
 |[],y::r,j,h=>by
  cases hm:m j with
  |true=>have:=h 0 (by simpa using hm);simp at this
  |false=>
   rw[pick,pick,hm];exact D5 [] r (j+1) λi hi=>by have:=h (i+1) (by rw[show j+(i+1)=j+1+i by omega];exact hi);simpa using this
 |x::l,[],j,h=>by
  cases hm:m j with
  |true=>have:=h 0 (by simpa using hm);simp at this
  |false=>
   rw[pick,pick,hm];exact D5 l [] (j+1) λi hi=>by have:=h (i+1) (by rw[show j+(i+1)=j+1+i by omega];exact hi);simpa using this
 |x::l,y::r,j,h=>by
  have ih:=D5 l r (j+1) λi hi=>by have:=h (i+1) (by rw[show j+(i+1)=j+1+i by omega];exact hi);simpa using this
  rw[pick,pick];cases hm:m j with
  |true=>have:=h 0 (by simpa using hm);simp at this;rw[this,ih]
  |false=>exact ih
theorem iM{m:Nat->Bool}{x:bP}:∀(l:List bP)(j:Nat),x∈pick l j m↔∃i,m (j+i)=true/\l[i]? =some x
 |[],j=>by simp[pick]
 |y::l,j=>by
  have ih:=iM (m:=m) (x:=x) l (j+1);have e:∀i,j+1+i=j+(i+1):=λi=>by omega
  rw[pick];cases hm:m j with
  |true=>
   simp only[akm,ih];constructor
   .rintro(rfl|⟨i,h1,h2⟩)
    .exact⟨0,by simpa using hm,rfl⟩
    .exact⟨i+1,by rw[← e];exact h1,by simpa using h2⟩
   .rintro⟨i,h1,h2⟩;cases i with
    |zero=>simp at h2;exact .inl h2.symm
    |succ i=>exact .inr ⟨i,by rw[e];exact h1,by simpa using h2⟩
  |false=>
   simp only[ih];constructor
   .rintro⟨i,h1,h2⟩;exact⟨i+1,by rw[← e];exact h1,by simpa using h2⟩
   .rintro⟨i,h1,h2⟩;cases i with
    |zero=>rw[alm,hm]at h1;cases h1
    |succ i=>exact⟨i,by rw[e];exact h1,by simpa using h2⟩
theorem kT{m i j:Nat}(h:m<2 ^ i)(hj:i<=j):m.testBit j=false:=
 Nat.testBit_lt_two_pow (akw h (Nat.pow_le_pow_right (by decide) hj))
theorem EX{R:Reg}{base:St}{l l':List bP}{i:Nat}(h:∀j,(R.ms.getD i 0).testBit j=true->l[j]? =l'[j]?):viewAt R base l i=viewAt R base l' i:=by unfold viewAt after;rw[D5 l l' 0 λj hj=>h j (by simpa using hj)]
theorem nT.agree{R:Reg}{base:St}{l l':List bP}{i:Nat}{o:Oper}{x:bP}(h:∀j,(R.ms.getD i 0).testBit j=true->l[j]? =l'[j]?)(hr:nT Θ Γ R base l i o x):nT Θ Γ R base l' i o x:=by
 obtain⟨h1,h2,h3⟩:=hr;refine⟨h1,h2,?_⟩;rw[← EX h];refine h3.imp (And.imp (Or.imp id ?_) id) (And.imp ?_ id)
 .rintro⟨g,b,y,e1,e2,e3,e4⟩;exact⟨g,b,y,e1,e2,h g e2▸e3,e4⟩
 .rintro⟨g,b,y,e1,e2,e3,e4⟩;exact⟨g,b,y,e1,e2,h g e2▸e3,e4⟩
theorem Enabled.agree{R:Reg}{base:St}{l l':List bP}{i:Nat}{o:Oper}(h:∀j,(R.ms.getD i 0).testBit j=true->l[j]? =l'[j]?)(hr:Enabled Θ Γ R base l i o):Enabled Θ Γ R base l' i o:=by
 obtain⟨d,h1,h2,h3⟩:=hr;refine⟨d,h1,h2,?_⟩;rw[← EX h];refine h3.imp (And.imp (Or.imp id ?_) id) ?_
 .rintro⟨g,b,y,e1,e2,e3,e4⟩;exact⟨g,b,y,e1,e2,h g e2▸e3,e4⟩
 .rintro⟨g,b,y,e1,e2,e3,e4⟩;exact⟨g,b,y,e1,e2,h g e2▸e3,e4⟩
theorem oM{l:List Nat}{x:Nat}:aH l x=true↔x∈l:=by
 induction l with
 |nil=>simp[aH]
 |cons y l ih=>
  rw[aH,akm];cases hb:Nat.beq x y with
  |true=>simp[aj3 hb]
  |false=>
   simp only[ih];constructor
   .exact .inr
   .rintro(rfl|h)
    .simp at hb
    .exact h
theorem TU{n:Nat}{o:Oper}{d:Nat}:∀(l:List Oper)(i j:Nat),l[j]? =some o->oH n (i+j) o=some d->d∈dstsOf n i l
 |[],_,_,ho,_=>by simp at ho
 |x::r,i,0,ho,hd=>by
  simp at ho;subst ho;rw[alm]at hd;rw[dstsOf,hd];exact akh
 |x::r,i,j+1,ho,hd=>by
  have:=TU r (i+1) j (by simpa using ho) (by rw[show i+1+j=i+(j+1) by omega];exact hd);rw[dstsOf];split
  .exact akg _ this
  .exact this
def RD(Θ:fU)(Γ:iT)(R:Reg)(base:St)(ops:List Oper)(path:List bP):Prop:=
 ∀i o x,ops[i]? =some o->path[i]? =some x->nT Θ Γ R base path i o x
theorem uD{acc ext:List bP}{j:Nat}(h:j<acc.length):(acc++ext)[j]? =acc[j]? :=akU h
theorem Qo{R:Reg}{base:St}{K:List bP->Prop}:∀(rest pre:List Oper)(acc ext:List bP),acc.length=pre.length->ext.length<=rest.length->
 pF Θ Γ R base K pre.length rest acc->RD Θ Γ R base (pre++rest) (acc++ext)->
 (ext.length=rest.length->K (acc++ext))/\∀o,rest[ext.length]? =some o->Enabled Θ Γ R base (acc++ext) (pre.length+ext.length) o
 |[],pre,acc,ext,hl,hle,hr,hc=>by
  have:ext=[]:=by cases ext with|nil=>rfl|cons _ _=>simp at hle
  subst this;rw[pF]at hr;exact⟨λ_=>by rw[akz];exact hr,λo ho=>by simp at ho⟩
 |o::rest,pre,acc,ext,hl,hle,hr,hc=>by
  rw[pF]at hr;split at hr
  case h_2=>exact hr.elim
  next d hd hm=>
  have hm':R.ms.getD pre.length 0<2 ^ pre.length:=by simpa[amq]using hm
  have key:(Wanted R acc pre.length o/\Eo Θ Γ R base pre.length o d acc (pF Θ Γ R base K (pre.length+1) rest))\/
   (Rz R acc pre.length o/\pF Θ Γ R base K (pre.length+1) rest (acc++[skipped d])):=by
   split at hr
   .next hg=>exact .inl ⟨.inl hg,hr⟩
   .next g b hg=>
    split at hr
    .next x hbit hx=>
     split at hr
     .next c hc'=>
      cases c
      .simp only[cond_false,YT hx hc']at hr;cases b
       .exact .inl ⟨.inr ⟨g,false,x,hg,hbit,hx,hc'⟩,hr⟩
       .exact .inr ⟨⟨g,true,x,hg,hbit,hx,.inl ⟨false,hc',by simp⟩⟩,hr⟩
      .simp only[cond_true,YT hx hc']at hr;cases b
       .exact .inr ⟨⟨g,false,x,hg,hbit,hx,.inl ⟨true,hc',by simp⟩⟩,hr⟩
       .exact .inl ⟨.inr ⟨g,true,x,hg,hbit,hx,hc'⟩,hr⟩
     .next vs hc'=>exact .inr ⟨⟨g,b,x,hg,hbit,hx,.inr ⟨vs,hc'⟩⟩,hr⟩
     .exact hr.elim
    .exact hr.elim
  have YU:∀ext:List bP,∀j,(R.ms.getD pre.length 0).testBit j=true->acc[j]? =(acc++ext)[j]? :=by
   intro ext j hj;rcases aks j acc.length with h|h
   .rw[uD h]
   .rw[kT hm' (by omega)]at hj;cases hj
  cases ext with
  |nil=>
   refine⟨λh=>by simp at h,λo' ho'=>?_⟩;have:o'=o:=by simpa using ho'.symm
   subst this;rw[akz];simp only[akn,alm];refine⟨d,hd,hm',?_⟩;rcases key with⟨hw,hs⟩|⟨hw,_⟩
   .refine .inl ⟨hw,?_⟩;unfold Eo at hs;split at hs
    .next he=>
     split at hs
     .next hst=>
      refine .inr (.inr (.inl ⟨he,hst,?_⟩));split at hs
      .next υ hυ=>
       split at hs
       .next hin=>exact⟨υ,hυ,hin⟩
       .exact hs.elim
      .exact hs.elim
     .next hst=>
      refine .inr (.inr (.inr ⟨⟨he,hst⟩,?_⟩));split at hs
      .next p ρ os hrel=>
       refine⟨p,ρ,os,hrel,hs.1,λt ht=>?_⟩;have:=hs.2 t ht;split at this
       .next v υ δ hres=>exact⟨_,hres⟩
       .exact this.elim
      .exact hs.elim
    .next he=>
     split at hs
     .next ha=>
      refine .inr (.inl ⟨he,ha,?_⟩);split at hs
      .next p q y happ=>
       split at hs
       .next hb=>rw[aj0,aj0]at hb;exact⟨p,q,y,happ,hs.1,hb.1,(λe=>by rw[e,akN]at hb;simp at hb),hb.2.2⟩
       .exact hs.elim
      .exact hs.elim
     .next ha=>
      refine .inl ⟨he,ha,?_⟩;split at hs
      .next p v δ hcalm=>
       split at hs
       .next hn hq=>exact⟨p,v,δ,hcalm,JV hcalm hq,hn⟩
       .next hn hq=>exact⟨p,v,δ,hcalm,hs.1,hn⟩
       .exact hs.elim
      .exact hs.elim
   .exact .inr hw
  |cons x ext=>
   have hx:nT Θ Γ R base (acc++x::ext) pre.length o x:=by
    refine hc pre.length o x ?_ ?_
    .rw[akH (aj8 _)];simp
    .rw[← hl,akH (aj8 _)];simp
   obtain⟨e1,_,e3⟩:=hx;have hxd:x.d=d:=by rw[hd]at e1;exact(Option.some.inj e1).symm
   have agT:viewAt R base acc pre.length=viewAt R base (acc++x::ext) pre.length:=EX (YU _);have hnext:pF Θ Γ R base K (pre.length+1) rest (acc++[x]):=by
    rcases key with⟨hw,hs⟩|⟨hw,hs⟩
    .rcases e3 with⟨_,e3⟩|⟨⟨g,b,y,f1,f2,f3,f4⟩,_⟩
     .rw[← agT,hxd]at e3;unfold Eo at hs;rcases e3 with⟨he,ha,p,v,δ,hcalm,_,hn,hxx⟩|⟨he,ha,p,q,y,happ,_,_,hxx⟩|⟨he,hst,υ,hυ,hin,hxx⟩|⟨⟨he,hst⟩,hk,p,ρ,os,t,hrel,_,ht,_,hres⟩
      .rw[he,ha]at hs;simp only[hcalm]at hs;split at hs
       .rw[hxx];exact hs
       .rw[hxx];exact hs.2
       .exact hs.elim
      .rw[he,ha]at hs;simp only[happ]at hs;split at hs
       .rw[hxx];exact hs.2
       .exact hs.elim
      .rw[he,hst]at hs;simp only[hυ,hin]at hs;rw[hxx];exact hs
      .rw[he,hst]at hs;simp only[hrel]at hs;have h2:=hs.2 t ht;simp only[hres]at h2;have ex:x=⟨d,x.v,x.u,x.δ,[]⟩:=by cases x;simp at hxd hk;simp[hxd,hk]
       rw[ex];exact h2
     .exfalso;rw[← YU _ g f2]at f3;rcases hw with hw|⟨g',b',y',k1,k2,k3,k4⟩
      .rw[hw]at f1;cases f1
      .rw[f1]at k1;cases k1;rw[f3]at k3;cases k3;rcases f4 with⟨c,f4,hne⟩|⟨vs,f4⟩
       .rw[f4]at k4;cases k4;exact hne rfl
       .rw[f4]at k4;cases k4
    .rcases e3 with⟨hw',_⟩|⟨_,f1⟩
     .exfalso;obtain⟨g,b,y,k1,k2,k3,k4⟩:=hw;rcases hw' with hw'|⟨g',b',y',l1,l2,l3,l4⟩
      .rw[hw']at k1;cases k1
      .rw[k1]at l1;cases l1;rw[← YU _ g l2,k3]at l3;cases l3;rcases k4 with⟨c,k4,hne⟩|⟨vs,k4⟩
       .rw[k4]at l4;cases l4;exact hne rfl
       .rw[k4]at l4;cases l4
     .rw[hxd]at f1;rw[f1];exact hs
   have ih:=Qo rest (pre++[o]) (acc++[x]) ext (by simp[hl]) (by simpa using hle) (by simpa using hnext) (by simpa using hc);simp only[aki,amA,aj1,aj6,akn]at ih;refine⟨λh=>ih.1 (by simpa using h),λo' ho'=>?_⟩;have:=ih.2 o' (by simpa using ho');rw[show pre.length+(0+1)+ext.length=pre.length+(ext.length+1) by omega]at this;simpa using this
theorem yP(acc:List Nat)(j:Nat):∀(es:List Edge),(wL acc es).testBit j=true↔∃e∈es,Region.binds .any e=true/\(e.on=j\/(acc.getD e.on 0).testBit j=true)
 |[]=>by simp[wL]
 |e::r=>by
  rw[wL];cases hb:Region.binds .any e with
  |false=>
   simp only[yP acc j r,akm];constructor
   .rintro⟨e',h1,h2⟩;exact⟨e',.inr h1,h2⟩
   .rintro⟨e',rfl|h1,h2⟩
    .rw[hb]at h2;cases h2.1
    .exact⟨e',h1,h2⟩
  |true=>
   simp only[Nat.testBit_or,ald,yP acc j r,akm,Nat.testBit_two_pow,akf];constructor
   .rintro((h|h)|⟨e',h1,h2⟩)
    .exact⟨e,.inl rfl,hb,.inl h⟩
    .exact⟨e,.inl rfl,hb,.inr h⟩
    .exact⟨e',.inr h1,h2⟩
   .rintro⟨e',rfl|h1,h2⟩
    .exact .inl h2.2
    .exact .inr ⟨e',h1,h2⟩
theorem J3:∀(l:List Oper)(acc:List Nat)(i:Nat),i<acc.length->(masks l acc).getD i 0=acc.getD i 0
 |[],_,_,_=>rfl
 |o::r,acc,i,h=>by rw[masks,J3 r _ i (by simp;omega)];simp[aj9,akU h]
theorem J4:∀(l:List Oper)(acc:List Nat)(i:Nat)(o:Oper),l[i]? =some o->∃acc',(masks l acc).getD (acc.length+i) 0=wL acc' o.after.toList/\
 (∀j,j<acc'.length->(masks l acc).getD j 0=acc'.getD j 0)
 |[],_,_,_,h=>by simp at h
 |o::r,acc,0,o',h=>by
  simp at h;subst h;refine⟨acc,?_,λj hj=>?_⟩
  .rw[masks,J3 r _ _ (by simp)];simp[aj9]
  .rw[masks,J3 r _ _ (by simp;omega)];simp[aj9,akU hj]
 |o::r,acc,i+1,o',h=>by
  obtain⟨acc',h1,h2⟩:=J4 r (acc++[wL acc o.after.toList]) i o' (by simpa using h);refine⟨acc',?_,?_⟩
  .rw[masks,← h1];simp only[aj1,List.length_singleton];congr 1;omega
  .rw[masks];exact h2
theorem WU{ops:List Oper}{i:Nat}{o:Oper}(ho:ops[i]? =some o){e:Edge}(he:e∈o.after)(hb:Region.binds .any e=true):((masks ops []).getD i 0).testBit e.on=true:=by obtain⟨acc',h1,_⟩:=J4 ops [] i o ho;simp only[akn,akr]at h1;rw[h1,yP];exact⟨e,by simpa using he,hb,.inl rfl⟩
theorem ac8{ops:List Oper}{i:Nat}{o:Oper}(ho:ops[i]? =some o){j:Nat}(hj:((masks ops []).getD i 0).testBit j=true):
 ∃e∈o.after,Region.binds .any e=true/\(e.on=j\/((masks ops []).getD e.on 0).testBit j=true):=by
 obtain⟨acc',h1,h2⟩:=J4 ops [] i o ho;simp only[akn,akr]at h1;rw[h1,yP]at hj;obtain⟨e,he,hb,hj⟩:=hj;refine⟨e,by simpa using he,hb,hj.imp id λh=>?_⟩;rcases aks e.on acc'.length with hlt|hge
 .rw[h2 _ hlt];exact h
 .rw[aj9,alj hge]at h;simp at h
def zH(L:Nat->Bool):Nat->Nat
 |0=>0
 |n+1=>(match L n with|true=>0|false=>1)+zH L n
theorem WV{L L':Nat->Bool}:∀(n:Nat),(∀i,i<n->L i=L' i)->zH L n=zH L' n
 |0,_=>rfl
 |n+1,h=>by rw[zH,zH,h n (by omega),WV n λi hi=>h i (by omega)]
theorem aa3{L L':Nat->Bool}{i:Nat}(hi:L i=false)(hi':L' i=true)(h:∀j,j≠i->L' j=L j):∀(n:Nat),i<n->zH L' n+1=zH L n
 |0,hn=>by omega
 |n+1,hn=>by
  rw[zH,zH];by_cases e:n=i
  .subst e;rw[hi,hi',WV (L:=L') (L':=L) n λj hj=>h j (by omega)];simp only;omega
  .have:=aa3 hi hi' h n (by omega);rw[h n e];omega
theorem YV{L:Nat->Bool}:∀(n:Nat),zH L n=0->∀i,i<n->L i=true
 |0,_,i,hi=>by omega
 |n+1,h,i,hi=>by
  rw[zH]at h;cases hl:L n with
  |false=>simp only[hl]at h;omega
  |true=>
   by_cases e:i=n
   .rw[e];exact hl
   .exact YV n (by simp only[hl]at h;omega) i (by omega)
theorem least{p:Nat->Prop}[DecidablePred p]:∀(n:Nat),(∃i,i<n/\p i)->∃i,i<n/\p i/\∀j,j<i->¬p j:=by
 intro n
 induction n using Nat.strongRecOn with
 |_ n ih=>
  rintro⟨i,hi,hp⟩;by_cases h:∃j,j<i/\p j
  .obtain⟨j,hj,h1,h2⟩:=ih i hi h;exact⟨j,by omega,h1,h2⟩
  .exact⟨i,hi,hp,λj hj hpj=>h ⟨j,hj,hpj⟩⟩
structure Fits(D U:List Nat)(l:List bP):Prop where
 one:∀x∈l,∀y∈l,x.d=y.d->x=y
 mem:∀x∈l,aH D x.d=true
 new:∀x∈l,xA x.d x.δ=true
 upd:∀x∈l,∀o y,look x.u o=some y->aH U o=true/\aH D (o / 64)=false
theorem oN{d:Nat}{δ:List (Nat×ay)}(h:xA d δ=true){o:Nat}{y:ay}(hl:look δ o=some y):o / 64=d:=
 aj3 (akk.1 h _ (rq δ o y hl))
theorem J5{t:Nat}{b:AV}:∀(l:List bP),(∀x∈l,x.d≠t)->rQ l t b=b
 |[],_=>rfl
 |x::r,h=>by
  rw[rQ];have:Nat.beq t x.d=false:=by
   cases hb:Nat.beq t x.d with
   |false=>rfl
   |true=>exact(h x akh (aj3 hb).symm).elim
  rw[this];exact J5 r λy hy=>h y (akg _ hy)
theorem Gx{b:AV}{x:bP}:∀(l:List bP),x∈l->(∀y∈l,x.d=y.d->x=y)->rQ l x.d b=x.v
 |[],h,_=>by cases h
 |y::r,h,hu=>by
  rw[rQ];cases hb:Nat.beq x.d y.d with
  |true=>rw[hu y akh (aj3 hb)]
  |false=>
   rcases akm.1 h with rfl|h
   .simp at hb
   .exact Gx r h λz hz=>hu z (akg _ hz)
theorem D6{o:Nat}{b:Option ay}:∀(l:List bP),(∀x∈l,look x.δ o=none)->lookO l o b=b
 |[],_=>rfl
 |x::r,h=>by rw[lookO,h x akh];exact D6 r λy hy=>h y (akg _ hy)
theorem NK{o:Nat}{b:Option ay}{x:bP}{z:ay}:∀(l:List bP),x∈l->look x.δ o=some z->(∀y∈l,∀z',look y.δ o=some z'->x=y)->lookO l o b=some z
 |[],h,_,_=>by cases h
 |y::r,h,hz,hu=>by
  rw[lookO];cases hy:look y.δ o with
  |some z'=>have:=hu y akh z' hy;subst this;rw[hz]at hy;exact hy.symm
  |none=>
   rcases akm.1 h with rfl|h
   .rw[hz]at hy;cases hy
   .exact NK r h hz λw hw=>hu w (akg _ hw)
theorem xB{o:Nat}:∀(l:List bP),(∀x∈l,look x.u o=none)->ku l o=none
 |[],_=>rfl
 |x::r,h=>by rw[ku,xB r λy hy=>h y (akg _ hy)];exact h x akh
theorem EY{o:Nat}(r:List bP):∀(l:List bP),ku (l++r) o=match ku r o with|some y=>some y|none=>ku l o
 |[]=>by simp only[akP,ku];cases ku r o<;>rfl
 |x::l=>by rw[ak9,ku,EY r l,ku];cases ku r o<;>rfl
theorem Qp{o:Nat}{m m':Nat->Bool}:∀(l:List bP)(j:Nat),(∀i x,l[i]? =some x->x.u≠[]->m (j+i)=m' (j+i))->ku (pick l j m) o=ku (pick l j m') o
 |[],_,_=>rfl
 |x::r,j,h=>by
  have ih:=Qp (o:=o) (m:=m) (m':=m') r (j+1) (λi y hi hy=>by
   have:=h (i+1) y (by simpa using hi) hy
   rwa [show j+(i+1)=j+1+i by omega]at this)
  have h0:=h 0 x rfl;rw[alm]at h0;rw[pick,pick];cases hm:m j<;>cases hm':m' j
  .exact ih
  .have hx:x.u=[]:=alD λe=>by have:=h0 e;rw[hm,hm']at this;cases this
   simp only[ku,hx,look];rw[ih];cases ku (pick r (j+1) m') o<;>rfl
  .have hx:x.u=[]:=alD λe=>by have:=h0 e;rw[hm,hm']at this;cases this
   simp only[ku,hx,look];rw[ih];cases ku (pick r (j+1) m') o<;>rfl
  .simp only[ku,ih]
theorem Qq{x:bP}{t:Nat}{b:AV}(r:List bP):∀(l:List bP),(∀y∈l,y.d≠x.d)->rQ (l++x::r) t b=match Nat.beq t x.d with|true=>x.v|false=>rQ (l++r) t b
 |[],_=>by simp only[akP,rQ]<;>rfl
 |y::l,h=>by
  rw[ak9,ak9,rQ,Qq r l λz hz=>h z (akg _ hz),rQ];cases hb:Nat.beq t y.d with
  |false=>rfl
  |true=>
   have:Nat.beq t x.d=false:=by
    cases hb2:Nat.beq t x.d with
    |false=>rfl
    |true=>exact(h y akh ((aj3 hb).symm.trans (aj3 hb2))).elim
   rw[this]
theorem Qr{x:bP}{o:Nat}{b:Option ay}(r:List bP):∀(l:List bP),(∀y∈l,∀z z',look y.δ o=some z->look x.δ o=some z'->False)->
 lookO (l++x::r) o b=match look x.δ o with|some y=>some y|none=>lookO (l++r) o b
 |[],_=>by simp only[akP,lookO]<;>(cases look x.δ o<;>rfl)
 |y::l,h=>by
  rw[ak9,ak9,lookO,Qr r l λz hz=>h z (akg _ hz),lookO];cases hy:look y.δ o with
  |none=>rfl
  |some z=>
   cases hx:look x.δ o with
   |none=>rfl
   |some z'=>exact(h y akh z z' hy hx).elim
theorem aat{base:St}{D U:List Nat}{l r:List bP}{x:bP}(hf:Fits D U (l++x::r))(hne:∀y∈l++r,y.d≠x.d)(hu:x.u≠[]->∀y∈r,y.u=[]):
 (((jd base (l++r)).adds x.u).adds x.δ).set x.d x.v=jd base (l++x::r):=by
 have hx:x∈l++x::r:=by simp
 have hsub:∀y∈l++r,y∈l++x::r:=λy hy=>by
  rcases akS.1 hy with h|h
  .exact akR _ h
  .exact alg _ (akg _ h)
 have e1:(((jd base (l++r)).adds x.u).adds x.δ).set x.d x.v={n:=base.n,tmps:=λt=>match Nat.beq t x.d with|true=>x.v|false=>rQ (l++r) t (base.tmps t),ah:=(((jd base (l++r)).adds x.u).adds x.δ).ah}:=by rw[IC,IC (jd base (l++r)) x.u];rfl
 rw[e1];unfold jd;congr 1
 · funext t
   rw[Qq r l λy hy=>hne y (akR _ hy)]
 · funext o
   rw[jM,jM];have hO:=Qr (x:=x) (o:=o) (b:=base.ah o) r l λy hy z z' hz hz'=>hne y (akR _ hy) ((oN (hf.new y (hsub y (akR _ hy))) hz).symm.trans (oN (hf.new x hx) hz'));have hU:ku (l++x::r) o=match look x.u o with|some y=>some y|none=>ku (l++r) o:=by
    rw[EY,EY,ku];by_cases hxu:x.u=[]
    .rw[hxu,look];cases ku r o<;>rfl
    .rw[xB r λy hy=>by rw[hu hxu y hy];rfl]
   rw[hO,hU];cases hδ:look x.δ o with
   |none=>cases look x.u o<;>rfl
   |some z=>
    have hod:aH D (o / 64)=true:=by rw[oN (hf.new x hx) hδ];exact hf.mem x hx
    have nou:∀y∈l++x::r,look y.u o=none:=λy hy=>by
     cases hl:look y.u o with
     |none=>rfl
     |some w=>have:=(hf.upd y hy o w hl).2;rw[hod]at this;cases this
    rw[nou x hx,xB (l++r) λy hy=>nou y (hsub y hy)]
theorem kz{o:Nat}:∀(l:List bP),aH (jS l) o=true↔∃x∈l,o∈x.k
 |[]=>by simp[jS,aH]
 |x::r=>by
  rw[oM,jS,akS,← oM (l:=jS r),kz r];constructor
  .rintro(h|⟨y,hy,h⟩)
   .exact⟨x,akh,h⟩
   .exact⟨y,akg _ hy,h⟩
  .rintro⟨y,hy,h⟩;rcases akm.1 hy with rfl|hy
   .exact .inl h
   .exact .inr ⟨y,hy,h⟩
theorem Cell.sU{S:Nat->Bool}(h:∀o,S o=false):∀(c:Cell),c.kill S=c
 |.int _ _|.bool _|.str _|.nil|.sl _ _ _ _|.junk=>rfl
 |.ref o=>by simp only[Cell.kill,h o]
theorem Cell.nG{S S' S2:Nat->Bool}(h:∀o,S2 o=(S o||S' o)):∀(c:Cell),(c.kill S).kill S'=c.kill S2
 |.int _ _|.bool _|.str _|.nil|.sl _ _ _ _|.junk=>rfl
 |.ref o=>by
  simp only[Cell.kill,h o];cases S o
  .simp only[amz]
  .rfl
theorem wu{S S' S2:Nat->Bool}(h:∀o,S2 o=(S o||S' o))(cs:List Cell):(cs.map (Cell.kill S)).map (Cell.kill S')=cs.map (Cell.kill S2):=by rw[aly];exact alK λc _=>Cell.nG h c
theorem SV.nG{S S' S2:Nat->Bool}(h:∀o,S2 o=(S o||S' o)):∀(c:SV),(c.kill S).kill S'=c.kill S2
 |.one c=>by simp only[SV.kill,Cell.nG h]
 |.agg cs=>by simp only[SV.kill,wu h]
theorem AV.nG{S S' S2:Nat->Bool}(h:∀o,S2 o=(S o||S' o)):∀(c:AV),(c.kill S).kill S'=c.kill S2
 |.undef=>rfl
 |.sv v=>by simp only[AV.kill,SV.nG h]
 |.jH vs=>by
  simp only[AV.kill];rw[aly,alK λc _=>(show((SV.kill S') ∘ (SV.kill S)) c=SV.kill S2 c from SV.nG h c)]
 |.bW o off=>by
  simp only[AV.kill,h o];cases S o
  .simp only[amz]
  .rfl
 |.kG o i off=>by
  simp only[AV.kill,h o];cases S o
  .simp only[amz]
  .rfl
 |.win o i off=>by
  simp only[AV.kill,h o];cases S o
  .simp only[amz]
  .rfl
 |.lW _ _ _ _=>rfl
 |.dA cs off=>by simp only[AV.kill,wu h]
 |.fn g caps=>by simp only[AV.kill];rw[aly,alK λc _=>(show((List.map (Cell.kill S')) ∘ (List.map (Cell.kill S))) c=List.map (Cell.kill S2) c from wu h c)]
theorem ay.nG{S S' S2:Nat->Bool}(h:∀o,S2 o=(S o||S' o)):∀(c:ay),(c.kill S).kill S'=c.kill S2
 |.var cs=>by simp only[ay.kill,wu h]
 |.arr _ _ _ _=>rfl
theorem St.nG{S S' S2:Nat->Bool}(h:∀o,S2 o=(S o||S' o))(st:St):(st.kill S).kill S'=st.kill S2:=by
 simp only[St.kill,St.mk.injEq,ami];refine⟨funext λt=>AV.nG h _,funext λo=>?_⟩;simp only[h o];cases S' o with
 |true=>cases S o<;>rfl
 |false=>
  cases S o with
  |true=>rfl
  |false=>
   simp only[Bool.or_false];cases st.ah o with
   |none=>rfl
   |some y=>simp only[akW,ay.nG h]
theorem yQ{S:Nat->Bool}(h:∀o,S o=false)(cs:List Cell):cs.map (Cell.kill S)=cs:=by rw[show Cell.kill S=id from funext (Cell.sU h),ame]
theorem SV.sU{S:Nat->Bool}(h:∀o,S o=false):∀(c:SV),c.kill S=c
 |.one c=>by simp only[SV.kill,Cell.sU h]
 |.agg cs=>by simp only[SV.kill,yQ h]
theorem AV.sU{S:Nat->Bool}(h:∀o,S o=false):∀(c:AV),c.kill S=c
 |.undef=>rfl
 |.sv v=>by simp only[AV.kill,SV.sU h]
 |.jH vs=>by simp only[AV.kill];rw[show SV.kill S=id from funext (SV.sU h),ame]
 |.bW o off=>by simp only[AV.kill,h o]
 |.kG o i off=>by simp only[AV.kill,h o]
 |.win o i off=>by simp only[AV.kill,h o]
 |.lW _ _ _ _=>rfl
 |.dA cs off=>by simp only[AV.kill,yQ h]
 |.fn g caps=>by simp only[AV.kill];rw[show List.map (Cell.kill S)=id from funext (yQ h),ame]
theorem ay.sU{S:Nat->Bool}(h:∀o,S o=false):∀(c:ay),c.kill S=c
 |.var cs=>by simp only[ay.kill,yQ h]
 |.arr _ _ _ _=>rfl
theorem St.sU{S:Nat->Bool}(h:∀o,S o=false)(st:St):st.kill S=st:=by
 cases st with
 |mk n t o=>
  simp only[St.kill,St.mk.injEq,ami];refine⟨funext λq=>AV.sU h _,funext λq=>?_⟩;simp only[h q];cases o q with
  |none=>rfl
  |some y=>simp only[akW,ay.sU h]
theorem jD(l:List Nat)(st:St):oL l st=st.kill (aH l):=by
 cases l with
 |nil=>exact(St.sU (λ_=>rfl) st).symm
 |cons=>rfl
theorem Rel.oL(h:Rel w0 M T γ st a w)(l:List Nat):Rel w0 M T γ (oL l st) a w:=by rw[jD];exact h.kill _
theorem Cell.pV{X:V}{S:Nat->Bool}(h:∀o,S o=true->X.ah o=none):∀(c:Cell)(v:Value),aJ X c v->c.kill S=c
 |.int _ _,_,_|.bool _,_,_|.str _,_,_|.nil,_,_|.sl _ _ _ _,_,_|.junk,_,_=>rfl
 |.ref o,v,⟨⟨e,r,l,fr,ho⟩,_⟩=>by
  simp only[Cell.kill];cases hs:S o with
  |false=>rfl
  |true=>rw[h o hs]at ho;cases ho
theorem sV{X:V}{S:Nat->Bool}(h:∀o,S o=true->X.ah o=none):∀(cs:List Cell)(vs:List Value),ai X cs vs->cs.map (Cell.kill S)=cs
 |[],[],_=>rfl
 |c::cs,v::vs,H=>by rw[ako,Cell.pV h c v H.1,sV h cs vs H.2]
 |[],_::_,H|_::_,[],H=>by cases H
theorem SV.pV{X:V}{S:Nat->Bool}(h:∀o,S o=true->X.ah o=none):∀(c:SV)(v:Value),bK X c v->c.kill S=c
 |.one c,v,H=>by rw[SV.kill,Cell.pV h c v H]
 |.agg cs,v,⟨vs,_,H⟩=>by rw[SV.kill,sV h cs _ H]
theorem NM{X:V}{S:Nat->Bool}(h:∀o,S o=true->X.ah o=none):∀(cs:List SV)(vs:List Value),bM X cs vs->cs.map (SV.kill S)=cs
 |[],[],_=>rfl
 |c::cs,v::vs,H=>by rw[ako,SV.pV h c v H.1,NM h cs vs H.2]
 |[],_::_,H|_::_,[],H=>by cases H
theorem LG{X:V}{S:Nat->Bool}(h:∀o,S o=true->X.ah o=none):∀(l:List (List Cell))(us:List Value),cO X l us->l.map (List.map (Cell.kill S))=l
 |[],[],_=>rfl
 |cs::l,u::us,⟨⟨b,_,arr,t,fz,_,_,H⟩,H2⟩=>by rw[ako,sV h cs _ H,LG h l us H2]
 |[],_::_,H|_::_,[],H=>by cases H
theorem AV.pV{X:V}{S:Nat->Bool}(h:∀o,S o=true->X.ah o=none):∀(c:AV)(v:Value),aN X c v->c.kill S=c
 |.undef,_,_=>rfl
 |.sv x,v,H=>by rw[AV.kill,SV.pV h x v H]
 |.jH xs,v,⟨vs,_,H⟩=>by rw[AV.kill,NM h xs _ H]
 |.bW o off,v,⟨b,cs,ho,_⟩=>by
  simp only[AV.kill];cases hs:S o with
  |false=>rfl
  |true=>rw[h o hs]at ho;cases ho
 |.kG o i off,v,⟨b,n,cap,e,r,l,fr,ho,_⟩=>by
  simp only[AV.kill];cases hs:S o with
  |false=>rfl
  |true=>rw[h o hs]at ho;cases ho
 |.win o i off,v,⟨b,n,cap,e,r,l,fr,ho,_⟩=>by
  simp only[AV.kill];cases hs:S o with
  |false=>rfl
  |true=>rw[h o hs]at ho;cases ho
 |.lW _ _ _ _,_,_=>rfl
 |.dA cs off,v,⟨b,_,arr,t,fz,_,_,H⟩=>by rw[AV.kill,sV h cs _ H]
 |.fn f caps,v,⟨us,_,H⟩=>by rw[AV.kill,LG h caps _ H]
theorem ay.pV{X:V}{S:Nat->Bool}(h:∀o,S o=true->X.ah o=none){o:Nat}:∀(x:ay),aS X o x->x.kill S=x
 |.var cs,⟨b,ar,t,_,_,H⟩=>by rw[ay.kill,sV h cs _ H]
 |.arr _ _ _ _,_=>rfl
theorem Cell.oO{S S' H:Nat->Bool}(h1:∀o,S o=true->S' o=true)(h2:∀o,S' o=true->S o=true\/H o=true):∀(c:Cell),(c.kill S).touch H=false->c.kill S'=c.kill S
 |.int _ _,_|.bool _,_|.str _,_|.nil,_|.sl _ _ _ _,_|.junk,_=>rfl
 |.ref o,ht=>by
  simp only[Cell.kill]at ht ⊢;cases hs:S o with
  |true=>rw[h1 o hs]
  |false=>
   rw[hs]at ht;have ht:H o=false:=ht;cases hs':S' o with
   |false=>rfl
   |true=>rcases h2 o hs' with g|g<;>simp_all
theorem pW{S S' H:Nat->Bool}(h1:∀o,S o=true->S' o=true)(h2:∀o,S' o=true->S o=true\/H o=true):∀(cs:List Cell),(cs.map (Cell.kill S)).any (Cell.touch H)=false->cs.map (Cell.kill S')=cs.map (Cell.kill S)
 |[],_=>rfl
 |c::cs,ht=>by rw[ako,List.any_cons,alb]at ht;rw[ako,ako,Cell.oO h1 h2 c ht.1,pW h1 h2 cs ht.2]
theorem SV.oO{S S' H:Nat->Bool}(h1:∀o,S o=true->S' o=true)(h2:∀o,S' o=true->S o=true\/H o=true):∀(c:SV),(c.kill S).touch H=false->c.kill S'=c.kill S
 |.one c,ht=>by simp only[SV.kill];rw[Cell.oO h1 h2 c ht]
 |.agg cs,ht=>by simp only[SV.kill];rw[pW h1 h2 cs ht]
theorem I4{S S' H:Nat->Bool}(h1:∀o,S o=true->S' o=true)(h2:∀o,S' o=true->S o=true\/H o=true):∀(cs:List SV),(cs.map (SV.kill S)).any (SV.touch H)=false->cs.map (SV.kill S')=cs.map (SV.kill S)
 |[],_=>rfl
 |c::cs,ht=>by rw[ako,List.any_cons,alb]at ht;rw[ako,ako,SV.oO h1 h2 c ht.1,I4 h1 h2 cs ht.2]
theorem Gy{S S' H:Nat->Bool}(h1:∀o,S o=true->S' o=true)(h2:∀o,S' o=true->S o=true\/H o=true):∀(l:List (List Cell)),((l.map (List.map (Cell.kill S))).any λcs=>cs.any (Cell.touch H))=false->l.map (List.map (Cell.kill S'))=l.map (List.map (Cell.kill S))
 |[],_=>rfl
 |c::cs,ht=>by rw[ako,List.any_cons,alb]at ht;rw[ako,ako,pW h1 h2 c ht.1,Gy h1 h2 cs ht.2]
theorem AV.oO{S S' H:Nat->Bool}(h1:∀o,S o=true->S' o=true)(h2:∀o,S' o=true->S o=true\/H o=true):∀(c:AV),(c.kill S).touch H=false->c.kill S'=c.kill S
 |.undef,_=>rfl
 |.sv v,ht=>by simp only[AV.kill];rw[SV.oO h1 h2 v ht]
 |.jH vs,ht=>by simp only[AV.kill];rw[I4 h1 h2 vs ht]
 |.bW o off,ht=>by
  simp only[AV.kill]at ht ⊢;cases hs:S o with
  |true=>rw[h1 o hs]
  |false=>
   rw[hs]at ht;have ht:H o=false:=ht;cases hs':S' o with
   |false=>rfl
   |true=>rcases h2 o hs' with g|g<;>simp_all
 |.kG o i off,ht=>by
  simp only[AV.kill]at ht ⊢;cases hs:S o with
  |true=>rw[h1 o hs]
  |false=>
   rw[hs]at ht;have ht:H o=false:=ht;cases hs':S' o with
   |false=>rfl
   |true=>rcases h2 o hs' with g|g<;>simp_all
 |.win o i off,ht=>by
  simp only[AV.kill]at ht ⊢;cases hs:S o with
  |true=>rw[h1 o hs]
  |false=>
   rw[hs]at ht;have ht:H o=false:=ht;cases hs':S' o with
   |false=>rfl
   |true=>rcases h2 o hs' with g|g<;>simp_all
 |.lW _ _ _ _,_=>rfl
 |.dA cs off,ht=>by simp only[AV.kill];rw[pW h1 h2 cs ht]
 |.fn g caps,ht=>by simp only[AV.kill];rw[Gy h1 h2 caps ht]
theorem ay.oO{S S' H:Nat->Bool}(h1:∀o,S o=true->S' o=true)(h2:∀o,S' o=true->S o=true\/H o=true):∀(c:ay),(c.kill S).touch H=false->c.kill S'=c.kill S
 |.var cs,ht=>by simp only[ay.kill];rw[pW h1 h2 cs ht]
 |.arr _ _ _ _,_=>rfl
theorem abX{v s:St}{lv lp hd:List Nat}(h:v.more s)(h1:∀o,aH lv o=true->aH lp o=true)(h2:∀o,aH lp o=true->aH lv o=true\/aH hd o=true):
 ((oL lv v).TT hd).more (oL lp s):=by
 have hc:∀(s:St),s.TT hd={n:=s.n,tmps:=(λt=>match (s.tmps t).touch (aH hd)with|true=>.undef|false=>s.tmps t),ah:=(λo=>match aH hd o with|true=>none|false=>match s.ah o with|some x=>(match x.touch (aH hd)with|true=>none|false=>some x)|none=>none)}:=by
  intro s;cases hd with
  |cons=>rfl
  |nil=>
   have t0:∀c:Cell,c.touch (aH [])=false:=λc=>by cases c<;>rfl
   have t1:∀cs:List Cell,cs.any (Cell.touch (aH []))=false:=λcs=>by rw[amQ];exactλc _=>by rw[t0 c];simp
   have t2:∀c:SV,c.touch (aH [])=false:=λc=>by cases c with|one c=>exact t0 c|agg cs=>exact t1 cs
   have t3:∀c:AV,c.touch (aH [])=false:=λc=>by
    cases c with
    |sv v=>exact t2 v
    |jH vs=>show vs.any (SV.touch (aH []))=false;rw[amQ];exactλc _=>by rw[t2 c];simp
    |dA cs off=>exact t1 cs
    |fn g caps=>show(caps.any λcs=>cs.any (Cell.touch (aH [])))=false;rw[amQ];exactλc _=>by rw[t1 c];simp
    |_=>rfl
   have t4:∀c:ay,c.touch (aH [])=false:=λc=>by cases c with|var cs=>exact t1 cs|arr _ _ _ _=>rfl
   cases s with
   |mk n t o=>
    simp only[St.TT,St.mk.injEq,ami];refine⟨funext λq=>?_,funext λq=>?_⟩
    .rw[t3 (t q)]
    .show o q=(match o q with|some x=>(match x.touch (aH [])with|true=>none|false=>some x)|none=>none);cases o q with
     |none=>rfl
     |some y=>dsimp only;rw[t4 y]
 rw[hc,jD,jD];refine⟨λt=>?_,λo y hy=>?_⟩
 .dsimp only[St.kill];cases ht:((v.tmps t).kill (aH lv)).touch (aH hd)with
  |true=>exact .inl rfl
  |false=>
   dsimp only;rcases h.tmps t with e|e
   .rw[e];exact .inl rfl
   .rw[e];exact .inr (AV.oO h1 h2 _ ht)
 .dsimp only[St.kill]at hy ⊢;split at hy
  .cases hy
  .next hh=>
   split at hy
   .next x hx=>
    split at hx
    .cases hx
    .next hl=>
     cases hvo:v.ah o with
     |none=>rw[hvo]at hx;cases hx
     |some y0=>
      rw[hvo]at hx;cases hx;split at hy
      .cases hy
      .next ht=>
       cases hy;have hlp:aH lp o=false:=by
        cases hlp:aH lp o with
        |false=>rfl
        |true=>rcases h2 o hlp with g|g<;>simp_all
       rw[hlp,h.ah o _ hvo];simp only[akW,ay.oO h1 h2 _ ht]
   .cases hy
theorem abY{base:St}{D U:List Nat}{path:List bP}{L L':Nat->Bool}{i:Nat}{x:bP}(hi:i<path.length)(hL:L i=false)(hL':L' i=true)(h:∀j,j≠i->L' j=L j)
 (hf:Fits D U (pick (path.set i x) 0 L')) (hne:∀y∈pick path 0 L,y.d≠x.d) (hu:x.u≠[]->∀j y,i<j->L j=true->path[j]? =some y->y.u=[]):
 (((jd base (pick path 0 L)).adds x.u).adds x.δ).set x.d x.v=jd base (pick (path.set i x) 0 L')/\(∀o,aH (jS (pick (path.set i x) 0 L')) o=(aH (jS (pick path 0 L)) o||aH x.k o)):=by
 have hsplit:path=path.take i++path[i]::path.drop (i+1):=by rw[List.getElem_cons_drop,al6]
 have hset:path.set i x=path.take i++x::path.drop (i+1):=by rw[List.set_eq_take_append_cons_drop,if_pos hi]
 have hlen:(path.take i).length=i:=by rw[akt];omega
 have p1:pick path 0 L=pick (path.take i) 0 L++pick (path.drop (i+1)) (i+1) L:=by
  conv=>lhs;rw[hsplit]
  rw[Ht,hlen,akr,pick,hL]
 have aeU:∀(l:List bP)(j:Nat),(∀k,k<l.length->j+k≠i)->pick l j L'=pick l j L:=by
  intro l
  induction l with
  |nil=>intros;rfl
  |cons y l ih=>intro j hj;rw[pick,pick,h j (by simpa using hj 0 (by simp)),ih (j+1) λk hk=>by have:=hj (k+1) (by simpa using hk);omega]
 have p2:pick (path.set i x) 0 L'=pick (path.take i) 0 L++x::pick (path.drop (i+1)) (i+1) L:=by rw[hset,Ht,hlen,akr,pick,hL',aeU (path.take i) 0 λk hk=>by omega,aeU (path.drop (i+1)) (i+1) λk hk=>by omega]
 rw[p2]at hf;rw[p1]at hne;rw[p1,p2];refine⟨?_,λo=>?_⟩
 case refine_2=>
  rw[akC,ald,kz,kz,oM];constructor
  .rintro⟨y,hy,ho⟩;rcases akS.1 hy with h|h
   .exact .inl ⟨y,akR _ h,ho⟩
   .rcases akm.1 h with rfl|h
    .exact .inr ho
    .exact .inl ⟨y,alg _ h,ho⟩
  .rintro(⟨y,hy,ho⟩|ho)
   .rcases akS.1 hy with h|h
    .exact⟨y,akR _ h,ho⟩
    .exact⟨y,alg _ (akg _ h),ho⟩
   .exact⟨x,by simp,ho⟩
 refine aat hf hne λhxu y hy=>?_;obtain⟨k,hk1,hk2⟩:=(iM _ _).1 hy;rw[akF]at hk2;exact hu hxu (i+1+k) y (by omega) hk1 hk2
theorem abZ{base:St}{D U:List Nat}{path:List bP}{L L':Nat->Bool}{i:Nat}{x:bP}(hi:i<path.length)(hL:L i=false)(hL':L' i=true)(h:∀j,j≠i->L' j=L j)
 (hf:Fits D U (pick (path.set i x) 0 L')) (hne:∀y∈pick path 0 L,y.d≠x.d) (hu:x.u≠[]->∀j y,i<j->L j=true->path[j]? =some y->y.u=[])
 (hv:x.v.kill (aH (jS (pick (path.set i x) 0 L')))=x.v)
 (hxo:∀o y,(look x.δ o=some y\/look x.u o=some y)->aH (jS (pick (path.set i x) 0 L')) o=false/\y.kill (aH (jS (pick (path.set i x) 0 L')))=y):
 (((oL x.k (after base path L)).adds x.u).adds x.δ).set x.d x.v=after base (path.set i x) L':=by
 obtain⟨e1,e2⟩:=abY (base:=base) hi hL hL' h hf hne hu;have e3:oL x.k (after base path L)=(jd base (pick path 0 L)).kill (aH (jS (pick (path.set i x) 0 L'))):=by unfold after;rw[jD,jD];exact St.nG e2 _
 rw[e3];unfold after;rw[jD,← e1];generalize aH (jS (pick (path.set i x) 0 L'))=S at hv hxo;generalize jd base (pick path 0 L)=s;have f1:∀s:St,((s.adds x.u).adds x.δ)={s with ah:=((s.adds x.u).adds x.δ).ah}:=λs=>by rw[IC,IC s x.u]
 rw[f1 (s.kill S),f1 s];simp only[St.set,St.kill,St.mk.injEq,ami];refine⟨funext λt=>?_,funext λo=>?_⟩
 .cases Nat.beq t x.d with
  |true=>exact hv.symm
  |false=>rfl
 .rw[jM,jM,jM,jM];cases hδ:look x.δ o with
  |some y=>
   obtain⟨g1,g2⟩:=hxo o y (.inl hδ);simp only[g1,akW,g2]
  |none=>
   cases hu:look x.u o with
   |some y=>
    obtain⟨g1,g2⟩:=hxo o y (.inr hu);simp only[g1,akW,g2]
   |none=>rfl
theorem ab1{base:St}{path:List bP}{L:Nat->Bool}(hL:∀i,L i=false):after base path L=base:=by unfold after;rw[WT path 0 L λi _=>hL i];rfl
theorem ad9(h:Rel w0 M T γ st a w)(D:List Nat):Rel w0 M T γ (bC D st) a w:=h.kill _
theorem WW{D:List Nat}{o:Nat}(h:aH D (o / 64)=true):(bC D st).ah o=none:=by simp[bC,St.kill,h]
theorem ab2{R:Reg}{path:List bP}{L:Nat->Bool}{i:Nat}(hf:Fits R.D R.U (pick path 0 L))(hsub:∀j,(R.ms.getD i 0).testBit j=true->L j=true)
 (hidx:∀k x,path[k]? =some x->idxOf R.D x.d 0=some k) (hi:L i=false) (hdown:∀k,L k=true->(R.ms.getD k 0).testBit i=false)
 (heff:yG R.ms R.E i=true->∀j x,path[j]? =some x->x.u≠[]->L j=true->(R.ms.getD i 0).testBit j=true):
 ((match yG R.ms R.E i with
   |true=>jd (bC R.D st) (pick path 0 (R.ms.getD i 0).testBit)
   |false=>(jd (bC R.D st) (pick path 0 (R.ms.getD i 0).testBit)).hide R.U).veil R i).more (jd (bC R.D st) (pick path 0 L)):=by
 have hmem:∀x∈pick path 0 (R.ms.getD i 0).testBit,x∈pick path 0 L:=λx hx=>by obtain⟨j,h1,h2⟩:=(iM _ _).1 hx;rw[akr]at h1;exact(iM _ _).2 ⟨j,by rw[akr];exact hsub j h1,h2⟩
 have ht:∀t,Ry R i t=false->rQ (pick path 0 L) t ((bC R.D st).tmps t)=rQ (pick path 0 (R.ms.getD i 0).testBit) t ((bC R.D st).tmps t):=by
  intro t hh;by_cases he:∃x∈pick path 0 (R.ms.getD i 0).testBit,x.d=t
  .obtain⟨x,hx,rfl⟩:=he;rw[Gx _ hx λy hy e=>hf.one x (hmem x hx) y (hmem y hy) e,Gx _ (hmem x hx) λy hy e=>hf.one x (hmem x hx) y hy e]
  .rw[J5 (pick path 0 (R.ms.getD i 0).testBit) λx hx e=>he ⟨x,hx,e⟩];refine J5 _ λx hx e=>?_;obtain⟨k,h1,h2⟩:=(iM _ _).1 hx;rw[akr]at h1;have hk:=hidx k x h2;rw[e]at hk;unfold Ry at hh;rw[hk]at hh;simp only[Bool.not_eq_false',ald]at hh;rcases hh with g|g|g
   .have:=aj3 g;subst this;rw[hi]at h1;cases h1
   .exact he ⟨x,(iM _ _).2 ⟨k,by rw[akr];exact g,h2⟩,e⟩
   .rw[hdown k h1]at g;cases g
 have hO:∀o y,lookO (pick path 0 (R.ms.getD i 0).testBit) o ((bC R.D st).ah o)=some y->lookO (pick path 0 L) o ((bC R.D st).ah o)=some y:=by
  intro o y hy;by_cases he:∃x∈pick path 0 (R.ms.getD i 0).testBit,∃z,look x.δ o=some z
  .obtain⟨x,hx,z,hz⟩:=he;have aeV:∀w∈pick path 0 L,∀z',look w.δ o=some z'->x=w:=λw hw z' hz'=>
    hf.one x (hmem x hx) w hw ((oN (hf.new x (hmem x hx)) hz).symm.trans (oN (hf.new w hw) hz'))
   rw[NK _ hx hz λw hw z' hz'=>aeV w (hmem w hw) z' hz']at hy;rw[NK _ (hmem x hx) hz aeV];exact hy
  .have hno:∀x∈pick path 0 (R.ms.getD i 0).testBit,look x.δ o=none:=λx hx=>by
    cases hl:look x.δ o with
    |none=>rfl
    |some z=>exact(he ⟨x,hx,z,hl⟩).elim
   rw[D6 _ hno]at hy;rw[D6,hy];intro x hx;cases hl:look x.δ o with
   |none=>rfl
   |some z=>rw[WW (by rw[oN (hf.new x hx) hl];exact hf.mem x hx)]at hy;cases hy
 have hsame:∀o y,ku (pick path 0 (R.ms.getD i 0).testBit) o=ku (pick path 0 L) o->(jd (bC R.D st) (pick path 0 (R.ms.getD i 0).testBit)).ah o=some y->(jd (bC R.D st) (pick path 0 L)).ah o=some y:=by
  intro o y he hy;unfold jd at hy ⊢;dsimp only at hy ⊢;rw[he]at hy;split at hy
  .next z hz=>exact hy
  .next hz=>exact hO o y hy
 have aeW:∀s:St,(∀t,s.tmps t=rQ (pick path 0 (R.ms.getD i 0).testBit) t ((bC R.D st).tmps t))->(∀o y,s.ah o=some y->(jd (bC R.D st) (pick path 0 L)).ah o=some y)->(s.veil R i).more (jd (bC R.D st) (pick path 0 L)):=by
  intro s h1 h2;refine⟨λt=>?_,h2⟩;show(match Ry R i t with|true=>AV.undef|false=>s.tmps t)=.undef\/_=(match Ry R i t with|true=>AV.undef|false=>s.tmps t);cases hh:Ry R i t with
  |true=>exact .inl rfl
  |false=>right;dsimp only;rw[h1 t];exact ht t hh
 split
 .next hc=>
  refine aeW _ (λt=>rfl) λo y hy=>hsame o y ?_ hy;refine Qp path 0 λj x hj hu=>?_;rw[akr];cases hL:L j with
  |true=>exact heff hc j x hj hu hL
  |false=>
   cases hm:(R.ms.getD i 0).testBit j with
   |false=>rfl
   |true=>rw[hsub j hm]at hL;cases hL
 .next hc=>
  refine aeW _ (λt=>rfl) λo y hy=>?_;unfold St.hide at hy;dsimp only at hy;split at hy
  .cases hy
  .next hU=>
   refine hsame o y ?_ hy;have nou:∀x∈pick path 0 L,look x.u o=none:=λx hx=>by
    cases hl:look x.u o with
    |none=>rfl
    |some z=>have:=(hf.upd x hx o z hl).1;rw[hU]at this;cases this
   rw[xB _ nou,xB _ λx hx=>nou x (hmem x hx)]
theorem ada(st:St)(U:List Nat)(S:Nat->Bool):(st.kill S).hide U=(st.hide U).kill S:=by
 simp only[St.hide,St.kill,St.mk.injEq,ami]
 funext o
 cases aH U o<;>cases S o<;>rfl
theorem WX(st:St)(R:Reg)(i:Nat)(S:Nat->Bool):(st.kill S).veil R i=(st.veil R i).kill S:=by
 simp only[St.veil,St.kill,St.mk.injEq,ami,and_true]
 funext t
 cases Ry R i t<;>rfl
theorem YW{ms:List Nat}{i e q:Nat}(Qs:e≠i)(h1:(ms.getD i 0).testBit e=false)(h2:(ms.getD e 0).testBit i=false):∀(A:List (Nat×Nat)),BB A e q=true->aH (VH ms i A) q=true
 |[],h=>by cases h
 |(e',q')::r,h=>by
  rw[BB]at h;rw[VH];cases hb:Nat.beq e' e&&Nat.beq q' q with
  |true=>
   rw[aj0]at hb;rw[aj3 hb.1,aj3 hb.2,h1,h2,uZ Qs];simp[aH,akN]
  |false=>
   rw[hb]at h;have ih:=YW Qs h1 h2 r h;split
   .exact ih
   .rw[aH,ih];split<;>rfl
theorem aau{R:Reg}{path:List bP}{L:Nat->Bool}{i:Nat}(hf:Fits R.D R.U (pick path 0 L))(hsub:∀j,(R.ms.getD i 0).testBit j=true->L j=true)
 (hidx:∀k x,path[k]? =some x->idxOf R.D x.d 0=some k) (hi:L i=false) (hdown:∀k,L k=true->(R.ms.getD k 0).testBit i=false)
 (heff:yG R.ms R.E i=true->∀j x,path[j]? =some x->x.u≠[]->L j=true->(R.ms.getD i 0).testBit j=true)
 (hk:∀e x,path[e]? =some x->L e=true->∀q∈x.k,BB R.A e q=true):
 (viewAt R (bC R.D st) path i).more (after (bC R.D st) path L):=by
 have h0:=ab2 (st:=st) hf hsub hidx hi hdown heff;have e:viewAt R (bC R.D st) path i=(oL (jS (pick path 0 (R.ms.getD i 0).testBit)) ((match yG R.ms R.E i with
  |true=>jd (bC R.D st) (pick path 0 (R.ms.getD i 0).testBit)
  |false=>(jd (bC R.D st) (pick path 0 (R.ms.getD i 0).testBit)).hide R.U).veil R i)).TT (VH R.ms i R.A):=by
  unfold viewAt after;rw[jD,jD];cases yG R.ms R.E i
  .dsimp only;rw[ada,WX]
  .dsimp only;rw[WX]
 rw[e];refine abX h0 (λo ho=>?_) λo ho=>?_
 .obtain⟨x,hx,hxo⟩:=(kz _).1 ho;obtain⟨j,h1,h2⟩:=(iM _ _).1 hx;rw[akr]at h1;exact(kz _).2 ⟨x,(iM _ _).2 ⟨j,by rw[akr];exact hsub j h1,h2⟩,hxo⟩
 .obtain⟨x,hx,hxo⟩:=(kz _).1 ho;obtain⟨j,h1,h2⟩:=(iM _ _).1 hx;rw[akr]at h1;cases hb:(R.ms.getD i 0).testBit j with
  |true=>exact .inl ((kz _).2 ⟨x,(iM _ _).2 ⟨j,by rw[akr];exact hb,h2⟩,hxo⟩)
  |false=>exact .inr (YW (λe=>by subst e;rw[hi]at h1;cases h1) hb (hdown j h1) R.A (hk j x h2 h1 o hxo))
theorem WY:∀(l:List Nat)(j i d:Nat),nodup l=true->l[i]? =some d->idxOf l d j=some (j+i)
 |[],_,_,_,_,h=>by simp at h
 |x::r,j,0,d,_,h=>by
  simp at h;subst h;rw[idxOf,akN];rfl
 |x::r,j,i+1,d,hn,h=>by
  rw[nodup,aj0]at hn;have hne:Nat.beq d x=false:=by
   cases hb:Nat.beq d x with
   |false=>rfl
   |true=>have hx:=aj3 hb;subst hx;have:aH r d=true:=oM.2 (akJ (by simpa using h));rw[this]at hn;simp at hn
  rw[idxOf,hne,show j+(i+1)=j+1+i by omega];exact WY r (j+1) i d hn.2 (by simpa using h)
end Go.Fw
namespace Go.Fw
open Go
variable {P:Program} {w0:World} {M:Nat->Prop} {T:Ext} {γ γ':Nat->Value} {st s:St} {a:Act} {w w':World} {Θ:fU} {Γ:iT}
theorem Cell.sW{S:Nat->Bool}(h:∀o,S o=false):∀(c:Cell),c.kill S=c
 |.ref o=>by simp only[Cell.kill,h o]
 |.int _ _|.bool _|.str _|.nil|.sl _ _ _ _|.junk=>rfl
theorem yR{S:Nat->Bool}(h:∀o,S o=false)(cs:List Cell):cs.map (Cell.kill S)=cs:=by rw[show Cell.kill S=id from funext (Cell.sW h),ame]
theorem SV.sW{S:Nat->Bool}(h:∀o,S o=false):∀(c:SV),c.kill S=c
 |.one c=>by simp only[SV.kill,Cell.sW h]
 |.agg cs=>by simp only[SV.kill,yR h]
theorem AV.sW{S:Nat->Bool}(h:∀o,S o=false):∀(c:AV),c.kill S=c
 |.undef=>rfl
 |.sv v=>by simp only[AV.kill,SV.sW h]
 |.jH vs=>by simp only[AV.kill];rw[show SV.kill S=id from funext (SV.sW h),ame]
 |.bW o off=>by simp only[AV.kill,h o]
 |.kG o i off=>by simp only[AV.kill,h o]
 |.win o i off=>by simp only[AV.kill,h o]
 |.lW _ _ _ _=>rfl
 |.dA cs off=>by simp only[AV.kill,yR h]
 |.fn f caps=>by simp only[AV.kill];rw[show List.map (Cell.kill S)=id from funext (yR h),ame]
theorem ay.sW{S:Nat->Bool}(h:∀o,S o=false):∀(c:ay),c.kill S=c
 |.var cs=>by simp only[ay.kill,yR h]
 |.arr _ _ _ _=>rfl
theorem St.sW{S:Nat->Bool}(h:∀o,S o=false)(st:St):st.kill S=st:=by
 unfold St.kill;rw[show(λt=>(st.tmps t).kill S)=st.tmps from funext λt=>AV.sW h _];have:(λo=>match S o with|true=>none|false=>(st.ah o).map (ay.kill S))=st.ah:=by
  funext o
  rw[h o,show ay.kill S=id from funext (ay.sW h)];cases st.ah o<;>rfl
 exact congrArg (λf=>({n:=st.n,tmps:=st.tmps,ah:=f}:St)) this
theorem ab3:∀(c:Cell),c.refs=[]->c.view s=c.view st
 |.int _ _,_|.bool _,_|.str _,_|.nil,_|.sl _ _ _ _,_|.junk,_=>rfl
theorem Qu:∀(cs:List Cell),cs.flatMap Cell.refs=[]->cs.map (Cell.view s)=cs.map (Cell.view st)
 |[],_=>rfl
 |c::cs,h=>by rw[ak5,akO]at h;rw[ako,ako,ab3 c h.1,Qu cs h.2]
theorem NP(h:st.more s){m:Mode}{x:AV}{r:Arg×Option Nat}(hr:lK st m x=some r):lK s m x=some r:=by
 unfold lK at hr ⊢;cases m with
 |val=>
  dsimp only at hr ⊢;split at hr
  .next a hx ha=>rw[hx,vG h _ _ ha];exact hr
  .cases hr
 |own=>
  dsimp only at hr ⊢;split at hr
  .split at hr
   .next ho=>rw[h.ah _ _ ho];exact hr
   .cases hr
  .cases hr
 |ptr=>
  dsimp only at hr ⊢;split at hr
  .split at hr
   .next hb ho=>
    split at hr
    .next hn=>rw[hb,h.ah _ _ ho];dsimp only;rw[hn,Qu (s:=s) (st:=st) _ hn];exact hr
    .cases hr
   .cases hr
  .cases hr
theorem LH{m:Mode}{x:AV}{r:Arg×Option Nat}(hr:lK st m x=some r):x≠ .undef:=by rintro rfl;cases m<;>simp[lK,kY]at hr
theorem Aj(h:st.more s):∀(os:List (Option Nat))(aF:List Eff)(δ:List (Nat×ay)),jZ st os aF=some δ->jZ s os aF=some δ
 |[],_,_,hb=>by unfold jZ at hb ⊢;exact hb
 |none::os,aF,δ,hb=>by rw[jZ]at hb ⊢;exact Aj h os _ δ hb
 |some o::os,aF,δ,hb=>by
  unfold jZ at hb ⊢;split at hb
  .next h1 h2=>rw[h1,Aj h _ _ _ h2];dsimp only;exact hb
  .next h1 h2 h3=>rw[h1,h.ah _ _ h2,Aj h _ _ _ h3];dsimp only;exact hb
  .next h1 h2 h3=>rw[h1,h.ah _ _ h2,Aj h _ _ _ h3];dsimp only;exact hb
  .cases hb
theorem Hu:∀(os:List (Option Nat))(aF:List Eff),IZ os aF=true->∀p,fC os aF p=false
 |[],_,_,_=>rfl
 |none::os,aF,h,p=>by rw[IZ]at h;rw[fC];exact Hu os _ h p
 |some o::os,aF,h,p=>by
  unfold IZ at h;unfold fC;split at h
  .next cs he=>rw[he];exact Hu os _ h p
  .cases h
theorem XB(h:st.more s){m:Mode}{x:AV}{r:Arg×Option Nat}(hr:nX st m x=some r):nX s m x=some r:=by
 cases m with
 |val=>
  simp only[nX]at hr ⊢;split at hr
  .next a ha=>rw[vG h _ _ ha];exact hr
  .cases hr
 |own=>exact NP h (m:=.own) hr
 |ptr=>exact NP h (m:=.ptr) hr
theorem VI{m:Mode}{x:AV}{r:Arg×Option Nat}(hr:nX st m x=some r):x≠ .undef:=by
 cases m with
 |val=>rintro rfl;simp[nX,kY]at hr
 |own=>exact LH (m:=.own) hr
 |ptr=>exact LH (m:=.ptr) hr
theorem Qv(h:st.more s):∀(ms:List Mode)(xs:List AV)(r:List Arg×List (Option Nat)),qO st ms xs=some r->qO s ms xs=some r
 |_,[],r,hr=>by unfold qO at hr ⊢;exact hr
 |ms,x::xs,r,hr=>by
  unfold qO at hr ⊢;split at hr
  .next h1 h2=>rw[XB h h1,Qv h _ _ _ h2];exact hr
  .cases hr
theorem NQ:∀(ms:List Mode)(xs:List AV)(r:List Arg×List (Option Nat)),qO st ms xs=some r->∀x∈xs,x≠ .undef
 |_,[],_,_,x,hx=>by cases hx
 |ms,x::xs,r,hr,y,hy=>by
  unfold qO at hr;split at hr
  .next h1 h2=>
   rcases akm.1 hy with rfl|hy
   .exact VI h1
   .exact NQ _ _ _ h2 y hy
  .cases hr
theorem ab4{xs:List AV}(h:zV xs=true):qA xs=[]:=by
 unfold zV at h;split at h
 .next h0=>exact h0
 .cases h
theorem vg:∀(ms:List Mode)(xs:List AV)(r:List Arg×List (Option Nat)),qA (yB ms xs)=[]->qO st ms xs=some r->hands st ms xs=some r
 |_,[],r,_,hr=>by unfold qO at hr;unfold hands;exact hr
 |ms,x::xs,r,hn,hr=>by
  unfold qO at hr;split at hr
  .next a o as os h1 h2=>
   have key:hands st ms.tail xs=some (as,os)/\lK st (ms.headD .val) x=some (a,o):=by
    cases ms with
    |nil=>
     have hn':x.refs++qA xs=[]:=hn;rw[akO]at hn';refine⟨vg [] xs _ (by cases xs<;>exact hn'.2) h2,?_⟩;have h1:nX st .val x=some (a,o):=h1;simp only[nX]at h1;show lK st .val x=_;simp only[lK,hn'.1];split at h1
     .next b hb=>rw[hb];exact h1
     .cases h1
    |cons m ms=>
     cases m with
     |val=>
      have hn':x.refs++qA (yB ms xs)=[]:=hn;rw[akO]at hn';refine⟨vg ms xs _ hn'.2 h2,?_⟩;have h1:nX st .val x=some (a,o):=h1;simp only[nX]at h1;show lK st .val x=_;simp only[lK,hn'.1];split at h1
      .next b hb=>rw[hb];exact h1
      .cases h1
     |own=>exact⟨vg ms xs _ hn h2,h1⟩
     |ptr=>exact⟨vg ms xs _ hn h2,h1⟩
   unfold hands;rw[key.1,key.2];exact hr
  .cases hr
theorem XC{m:Mode}{x:AV}{a:Arg}{o:Option Nat}(h:nX st m x=some (a,o)):zG false st x a o:=by
 have weak:zG true st x a o->zG false st x a o:=λh=>h.imp (λ⟨h1,_,h3⟩=>⟨h1,(λe=>by cases e),h3⟩) id;cases m with
 |val=>
  simp only[nX]at h;split at h
  .next b hb=>cases h;exact .inl ⟨rfl,(λe=>by cases e),hb⟩
  .cases h
 |own=>exact weak (EM (m:=.own) h)
 |ptr=>exact weak (EM (m:=.ptr) h)
theorem Qw:∀(ms:List Mode)(xs:List AV)(as:List Arg)(os:List (Option Nat)),qO st ms xs=some (as,os)->ny false st xs as os
 |_,[],as,os,h=>by unfold qO at h;cases h;trivial
 |ms,x::xs,as,os,h=>by
  unfold qO at h;split at h
  .next a o as' os' h1 h2=>cases h;exact⟨XC h1,Qw ms.tail xs as' os' h2⟩
  .cases h
theorem YX{G:iC}(hE:nR P G Θ Γ w0 M)(h:Rel w0 M T γ s a w)(hm:st.more s)(o:Oper){D U:List Nat}{d:Nat}{p:Prop}{ρ:He}{os:List (Option Nat)×Bool}
 (hc:IY Γ st o.op=some (p,ρ,os)) (hp:p) (hd:∀q,q / 64=d->s.ah q=none) (hch:∀t,ρ.R t->∃r,Ai D U d st os (ρ.out t) (ρ.aF t)=some r) {next:Act->World->Prop} {Q:Exit->Act->World->Prop}
 (hn:∀t v υ δ u γ' w',ρ.R t->Ai D U d st os (ρ.out t) (ρ.aF t)=some (v,υ,δ)->Rel w0 M T γ' ((s.adds υ).adds δ) a w'->aN (aj w0 T γ' ((s.adds υ).adds δ) w') v u->next (a.put o.dst u) w'):o.wp P a w next Q:=by
 unfold IY at hc;split at hc
 case h_2=>cases hc
 next f args lQ hop=>
 split at hc
 case h_2=>cases hc
 next ms con hcon=>
 split at hc
 case h_2=>cases hc
 next vs os' Nv=>
 split at hc
 case h_2=>cases hc
 next hno=>
 split at hc
 case h_2=>cases hc
 next q ρ' hq=>
 cases hc;have hand:handed s args.toList []=handed st args.toList []:=Hq hm [] _ (NQ _ _ _ Nv);have VJ:=Qv hm _ _ _ Nv;rw[← hand]at VJ hno hch hn;obtain⟨hok,hcall⟩:=hE.XU f ms con hcon;have hv:aN (aj w0 T γ s w) (.fn f []) (a.eval (.func f)):=fE h (.func f);obtain⟨us,Tc,hkx⟩:=hv;unfold Oper.wp;rw[Gm hop Tc hcall,amE];have hxs:kP (aj w0 T γ s w) (handed s args.toList []) (args.map a.eval++us).toList:=by rw[al0,alU];exact Ac h hkx args.toList
 have hk:(d*64+1)%64=1:=by omega
 have hspec:∀t,ρ.R t->∃υ,sJ os'=true/\Cj (ρ.aF t) ((ρ.out t).take (d*64+1)).2=true/\jZ s os' (ρ.aF t)=some υ/\s.kill (fC os' (ρ.aF t))=s/\gJ s ((ρ.out t).take (d*64+1)).2=true/\
  (!(!(zV (yB ms (handed s args.toList []))))||((ρ.out t).made&&EN (ρ.aF t)))=true/\
  Ai D U d st (os',!(zV (yB ms (handed s args.toList [])))) (ρ.out t) (ρ.aF t)=some (((ρ.out t).take (d*64+1)).1,υ,((ρ.out t).take (d*64+1)).2):=by
  intro t ht;obtain⟨r,hr⟩:=hch t ht;have hr0:=hr;unfold Ai at hr;split at hr
  .next υ hnd hb=>
   rw[aj0,aj0,aj0,aj0]at hnd;split at hr
   .cases hr;refine⟨υ,hnd.1,hnd.2.1,Aj hm _ _ _ hb,St.sW (Hu _ _ hnd.2.2.1) s,?_,hnd.2.2.2.2,hr0⟩;refine akk.2 λz hz=>?_;rw[hd z.1 (aj3 (akk.1 hnd.2.2.2.1 z hz))];rfl
   .cases hr
  .cases hr
 have hpre:∀t,ρ.R t->∃δ,jZ s os' (ρ.aF t)=some δ/\gJ (s.kill (fC os' (ρ.aF t))) ((ρ.out t).take (d*64+1)).2=true/\Cj (ρ.aF t) ((ρ.out t).take (d*64+1)).2=true:=λt ht=>by obtain⟨υ,_,g1,g2,g3,g4,_,_⟩:=hspec t ht;exact⟨υ,g2,by rw[g3];exact g4,g1⟩
 obtain⟨t0,ht0⟩:=(hok vs _ ρ hq hp).1;obtain⟨_,hnd,_⟩:=hspec t0 ht0;have af9:Calls P f (args.map a.eval++us) w λe w'=>∃t δ,ρ.R t/\jZ s os' (ρ.aF t)=some δ/\∃v γ',e=.returned v/\
  Rel w0 M T γ' (((s.kill (fC os' (ρ.aF t))).adds δ).adds ((ρ.out t).take (d*64+1)).2) a w'/\aN (aj w0 T γ' (((s.kill (fC os' (ρ.aF t))).adds δ).adds ((ρ.out t).take (d*64+1)).2) w') ((ρ.out t).take (d*64+1)).1 v:=by
  cases hnr:zV (yB ms (handed s args.toList []))with
  |true=>exact h.aaR hE hxs (JS ms _ vs os' (vg ms _ _ (ab4 hnr) VJ)) hnd hk hok hq hp hpre
  |false=>
   rw[hnr]at hno;refine h.Yz hE hxs (Qw ms _ vs os' VJ) hnd hk hok hq hp (λq e r l he=>?_) (λt ht=>?_) hpre
   .unfold bZ at he;split at he
    .next e' r' l' hb=>have:=akk.1 hno _ (akJ hb);cases this
    .split at he<;>cases he
    .cases he
   .obtain⟨_,_,_,_,_,_,g,_⟩:=hspec t ht;rw[hnr]at g;simpa using g
 refine af9.mono ?_;rintro e w' ⟨t,δ,ht,hb,u,γ',rfl,g1,g2⟩;obtain⟨υ,_,_,k2,k3,_,_,k5⟩:=hspec t ht;have hδ:υ=δ:=Option.some.inj (k2.symm.trans hb);subst hδ;rw[k3]at g1 g2;exact hn t _ _ _ u γ' w' ht k5 g1 g2
theorem wM{ops:Array Oper}{listed:Array Bool}{i:Nat}:i∈Region.ready .any ops listed↔
 ∃o,ops[i]? =some o/\listed.getD i true=false/\∀e∈o.after,Region.binds .any e=true->listed.getD e.on false=true:=by
 rw[mem_ready];constructor
 .rintro⟨h1,o,h2,h3⟩;exact⟨o,h2,h1,h3⟩
 .rintro⟨o,h2,h1,h3⟩;exact⟨h1,o,h2,h3⟩
theorem zI{listed:Array Bool}{i:Nat}(hi:i<listed.size):listed.getD i true=listed.getD i false:=by simp[Array.getD,hi]
theorem aft(d:Nat):(d*64+1) / 64=d:=by omega
theorem WZ{o:Op}(h:sS o=true):rU Γ o=true:=by
 unfold sS at h;split at h
 .rfl
 .cases h
theorem Rel.aga(h:Rel w0 M T γ st a w)(d:Nat)(hd:st.n<=d)(v:AV)(hv:v=.jH []):Rel w0 M T γ (st.set d v) (a.put none undef) w:=by
 refine⟨h.mT,h.defers,h.size,h.os,h.tape,h.output,h.grow,h.kept,λt=>?_,h.ah,h.lt,h.sep,h.pin⟩;show aN _ (match Nat.beq t d with|true=>v|false=>st.tmps t) (a.tmps.getD t undef);cases hb:Nat.beq t d with
 |false=>exact h.tmps t
 |true=>
  have e:=aj3 hb;have hs:=h.size;have:a.tmps.getD t undef=undef:=by simp[Array.getD,show ¬t<a.tmps.size by omega]
  rw[this,hv];exact⟨#[],rfl,trivial⟩
theorem VK{G:iC}(hE:nR P G Θ Γ w0 M){s:St}(h:Rel w0 M T γ s a w)(hm:st.more s)(o:Oper){υ:List (Nat×ay)}(hc:EW Θ st o.op=some υ){next:Act->World->Prop}{Q:Exit->Act->World->Prop}
 (hn:∀γ' w',Rel w0 M T γ' ((s.adds υ).adds []) a w'->next (a.put o.dst undef) w'):o.wp P a w next Q:=by
 unfold EW at hc;split at hc
 case h_2=>cases hc
 next t p x hop=>
 split at hc
 case h_2=>cases hc
 next v ti q off hv ht hp=>
 split at hc
 case h_2=>cases hc
 next cs hlen ho=>
 split at hc
 case h_2=>cases hc
 next JQ=>
 cases hc;have hs:store s (.bW q off) v=some (True,s.add q (.var (splice cs off v.cells))):=by unfold store;simp only[hm.ah q _ ho,JQ]
 have hpv:=fE h p;rw[bg hm hp (by simp)]at hpv;have hxv:=fE h x;rw[bg hm hv (by simp)]at hxv;obtain⟨w',h1,h2⟩:=WC hE.types h ht hs trivial hpv hxv (aj3 hlen);exact Oper.wp_skip (w':=w') (by simp[execOp,hop,h1]) (hn γ w' h2)
theorem Cell.jv{S:Nat->Bool}(st:St):∀(c:Cell),c.kill S=c->c.freeze st S=c
 |.ref o,h=>by
  simp only[Cell.kill]at h;simp only[Cell.freeze];cases hs:S o with
  |true=>rw[hs]at h;cases h
  |false=>rfl
 |.int _ _,_|.bool _,_|.str _,_|.nil,_|.sl _ _ _ _,_|.junk,_=>rfl
theorem lC{S:Nat->Bool}(st:St):∀(cs:List Cell),cs.map (Cell.kill S)=cs->cs.map (Cell.freeze st S)=cs
 |[],_=>rfl
 |c::cs,h=>by rw[ako,List.cons.injEq]at h;rw[ako,Cell.jv st c h.1,lC st cs h.2]
theorem SV.jv{S:Nat->Bool}(st:St):∀(c:SV),c.kill S=c->c.freeze st S=c
 |.one c,h=>by
  simp only[SV.kill,SV.one.injEq]at h;simp only[SV.freeze,Cell.jv st c h]
 |.agg cs,h=>by simp only[SV.kill,SV.agg.injEq]at h;simp only[SV.freeze,lC st cs h]
theorem CQ{S:Nat->Bool}(st:St):∀(cs:List SV),cs.map (SV.kill S)=cs->cs.map (SV.freeze st S)=cs
 |[],_=>rfl
 |c::cs,h=>by rw[ako,List.cons.injEq]at h;rw[ako,SV.jv st c h.1,CQ st cs h.2]
theorem Bd{S:Nat->Bool}(st:St):∀(l:List (List Cell)),l.map (List.map (Cell.kill S))=l->l.map (List.map (Cell.freeze st S))=l
 |[],_=>rfl
 |c::cs,h=>by rw[ako,List.cons.injEq]at h;rw[ako,lC st c h.1,Bd st cs h.2]
theorem AV.jv{S:Nat->Bool}(st:St):∀(c:AV),c.kill S=c->c.freeze st S=c
 |.undef,_=>rfl
 |.sv v,h=>by
  simp only[AV.kill,AV.sv.injEq]at h;simp only[AV.freeze,SV.jv st v h]
 |.jH vs,h=>by
  simp only[AV.kill,AV.jH.injEq]at h;simp only[AV.freeze,CQ st vs h]
 |.bW o off,h=>by
  simp only[AV.kill]at h;simp only[AV.freeze];cases hs:S o with
  |true=>rw[hs]at h;cases h
  |false=>rfl
 |.kG o i off,h=>by
  simp only[AV.kill]at h;simp only[AV.freeze];cases hs:S o with
  |true=>rw[hs]at h;cases h
  |false=>rfl
 |.win o i off,h=>by
  simp only[AV.kill]at h;simp only[AV.freeze];cases hs:S o with
  |true=>rw[hs]at h;cases h
  |false=>rfl
 |.lW _ _ _ _,_=>rfl
 |.dA cs off,h=>by
  simp only[AV.kill,AV.dA.injEq]at h;simp only[AV.freeze,lC st cs h.1]
 |.fn f caps,h=>by simp only[AV.kill,AV.fn.injEq]at h;simp only[AV.freeze,Bd st caps h.2]
theorem ay.jv{S:Nat->Bool}(st:St):∀(c:ay),c.kill S=c->c.freeze st S=c
 |.var cs,h=>by
  simp only[ay.kill,ay.var.injEq]at h;simp only[ay.freeze,lC st cs h]
 |.arr _ _ _ _,_=>rfl
theorem aea{s:St}{γ0:Nat->Value}{w1:World}{a1:Act}(h0:Rel w0 M T γ0 s a1 w1){q:Nat}(hq:s.ah q=none){e:TypeId}{r:au}{l:List r.den}{fr:Bool}{u:Value}
 (h:Rel w0 M T γ (s.adds [(q,.arr e r l fr)]) a w) (hv:aN (aj w0 T γ (s.adds [(q,.arr e r l fr)]) w) (.sv (.one (.ref q))) u):
 Rel w0 M T γ s a w/\aN (aj w0 T γ s w) (.sv (.one (.sl e r l fr))) u:=by
 have hS:∀o,Nat.beq q o=true->s.ah o=none:=λo ho=>by rw[← aj3 ho];exact hq
 have mG:(s.adds [(q,.arr e r l fr)]).ah q=some (.arr e r l fr):=by show(match Nat.beq q q with|true=>some _|false=>_)=_;rw[akN]
 have hne:∀o,Nat.beq q o=false->(s.adds [(q,.arr e r l fr)]).ah o=s.ah o:=λo ho=>by
  show(match Nat.beq o q with|true=>some _|false=>_)=_;cases hb:Nat.beq o q with
  |false=>rfl
  |true=>rw[aj3 hb,akN]at ho;cases ho
 have hs:(s.adds [(q,.arr e r l fr)]).freeze (Nat.beq q)=s:=by
  have ht:((s.adds [(q,.arr e r l fr)]).freeze (Nat.beq q)).tmps=s.tmps:=by
   funext t
   exact AV.jv _ _ (AV.pV hS _ _ (h0.tmps t))
  have ho:((s.adds [(q,.arr e r l fr)]).freeze (Nat.beq q)).ah=s.ah:=by
   funext o
   simp only[St.freeze];cases hb:Nat.beq q o with
   |true=>simp only[hS o hb]
   |false=>
    simp only[hne o hb];cases hx:s.ah o with
    |none=>rfl
    |some x=>simp only[akW,ay.jv _ x (ay.pV hS x (h0.ah o x hx))]
  show(⟨s.n,((s.adds [(q,.arr e r l fr)]).freeze (Nat.beq q)).tmps,((s.adds [(q,.arr e r l fr)]).freeze (Nat.beq q)).ah⟩:St)=⟨s.n,s.tmps,s.ah⟩;rw[ht,ho]
 have h1:=h.freeze (S:=Nat.beq q);have h2:=aN.freeze (S:=Nat.beq q) h _ _ hv;rw[hs]at h1 h2;refine⟨h1,?_⟩;simp only[AV.freeze,SV.freeze,Cell.freeze,akN,mG]at h2;exact h2
structure Way(R:Reg)(ops:Array Oper)(t0:Nat)(path:List bP):Prop where
 len:path.length=t0
 dst:∀(i:Nat)(o:Oper)(x:bP),ops[i]? =some o->path[i]? =some x->oH R.n i o=some x.d
 aeb:∀x∈path,aH R.D x.d=true
 apart:∀(i j:Nat)(x y:bP),path[i]? =some x->path[j]? =some y->x.d=y.d->i=j
 idx:∀(i:Nat)(x:bP),path[i]? =some x->idxOf R.D x.d 0=some i
theorem nT.fit{R:Reg}{base:St}{path:List bP}{i:Nat}{o:Oper}{x:bP}(h:nT Θ Γ R base path i o x):
 xA x.d x.δ=true/\(∀q y,look x.u q=some y->aH R.U q=true/\aH R.D (q / 64)=false)/\(x.u≠[]->rU Γ o.op=true)/\∀q∈x.k,BB R.A i q=true/\aH R.D (q / 64)=true:=by
 obtain⟨_,_,h3⟩:=h;rcases h3 with⟨_,⟨_,_,p,v,δ,_,_,hn,hx⟩|⟨_,_,p,q,y,_,_,⟨h1,h2,h3⟩,hx⟩|⟨he,_,υ,_,hin,hx⟩|⟨⟨he,_⟩,hk,p,ρ,os,t,_,_,_,_,hres⟩⟩|⟨_,hx⟩
 .obtain⟨l1,l2,l3,l4⟩:=lS R.F ⟨x.d,v,[],δ,[]⟩;rw[← hx]at l2 l3 l4;exact⟨akk.2 λy hy=>akk.1 hn y (l4 y hy),(λq y hy=>by rw[l2]at hy;cases hy),(λhne=>(hne l2).elim),λq hq=>by rw[l3]at hq;cases hq⟩
 .obtain⟨l1,l2,l3,l4⟩:=lS R.F ⟨x.d,.sv (.one (.ref (x.d*64+1))),[],[(x.d*64+1,y)],[q]⟩;rw[← hx]at l2 l3 l4;refine⟨akk.2 λz hz=>?_,(λq y hy=>by rw[l2]at hy;cases hy),(λhne=>(hne l2).elim),λr hr=>?_⟩
  .have:=l4 z hz;have:z=(x.d*64+1,y):=by simpa using this
   rw[this];show Nat.beq ((x.d*64+1) / 64) x.d=true;rw[show(x.d*64+1) / 64=x.d by omega,akN]
  .rw[l3]at hr;have:r=q:=by simpa using hr
   rw[this];exact⟨h3,h1⟩
 .rw[hx];refine⟨rfl,λq y hy=>?_,(λ_=>he),λq hq=>by cases hq⟩;have:=akk.1 hin _ (rq _ _ _ hy);simpa using this
 .unfold Ai at hres;split at hres
  .next υ hnd hb=>
   simp only[aj0]at hnd;split at hres
   .next hall=>simp only[Option.some.injEq,Prod.mk.injEq]at hres;obtain⟨_,e2,e3⟩:=hres;refine⟨by rw[← e3];exact hnd.2.2.2.1,λq y hy=>?_,(λ_=>he),λq hq=>by rw[hk]at hq;cases hq⟩;rw[← e2]at hy;have:=akk.1 hall _ (rq _ _ _ hy);simpa using this
   .cases hres
  .cases hres
 .rw[hx];exact⟨rfl,(λq y hy=>by cases hy),(λhne=>(hne rfl).elim),λq hq=>by cases hq⟩
theorem TV:∀(l:List Oper)(i j:Nat)(o:Oper),l[j]? =some o->rU Γ o.op=true->i+j∈IX Γ i l
 |[],_,_,_,h,_=>by simp at h
 |x::r,i,0,o,h,he=>by
  simp at h;subst h;rw[IX,he];simp
 |x::r,i,j+1,o,h,he=>by
  have:=TV r (i+1) j o (by simpa using h) he;rw[show i+1+j=i+(j+1) by omega]at this;rw[IX];cases rU Γ x.op
  .exact this
  .exact akg _ this
theorem Way.fits{R:Reg}{ops:Array Oper}{t0:Nat}{path:List bP}{L:Nat->Bool}{base:St}(W:Way R ops t0 path)(hle:t0<=ops.size)
 (hok:∀j o x,ops[j]? =some o->path[j]? =some x->L j=true->nT Θ Γ R base path j o x):Fits R.D R.U (pick path 0 L):=by
 have get:∀x∈pick path 0 L,∃j o,L j=true/\path[j]? =some x/\ops[j]? =some o:=λx hx=>by obtain⟨j,h1,h2⟩:=(iM _ _).1 hx;rw[akr]at h1;obtain⟨hj,_⟩:=akc.1 h2;have hlen:=W.len;exact⟨j,ops[j]'(by omega),h1,h2,by simp⟩
 refine⟨λx hx y hy e=>?_,λx hx=>?_,λx hx=>?_,λx hx q z hz=>?_⟩
 .obtain⟨j,_,_,h2,_⟩:=get x hx;obtain⟨k,_,_,h3,_⟩:=get y hy;have:=W.apart j k x y h2 h3 e;subst this;rw[h2]at h3;exact Option.some.inj h3
 .obtain⟨j,_,_,h2,_⟩:=get x hx;exact W.aeb x (akJ h2)
 .obtain⟨j,o,h1,h2,h3⟩:=get x hx;exact(hok j o x h3 h2 h1).fit.1
 .obtain⟨j,o,h1,h2,h3⟩:=get x hx;exact(hok j o x h3 h2 h1).fit.2.1 q z hz
theorem Way.set{R:Reg}{ops:Array Oper}{t0:Nat}{path:List bP}{i:Nat}{x y:bP}(W:Way R ops t0 path)(hy:path[i]? =some y)(hd:x.d=y.d):Way R ops t0 (path.set i x):=by
 obtain⟨hi,_⟩:=akc.1 hy;have get:∀(j:Nat)(z:bP),(path.set i x)[j]? =some z->∃z',path[j]? =some z'/\z.d=z'.d:=λj z hz=>by
  by_cases e:j=i
  .subst e;rw[ali hi]at hz;cases hz;exact⟨y,hy,hd⟩
  .rw[akZ (alH e)]at hz;exact⟨z,hz,rfl⟩
 refine⟨by simpa using W.len,λj o z ho hz=>?_,λz hz=>?_,λj k u v hu hv e=>?_,λj z hz=>?_⟩
 .obtain⟨z',h1,h2⟩:=get j z hz;rw[W.dst j o z' ho h1,h2]
 .obtain⟨j,hj⟩:=ama hz;obtain⟨z',h1,h2⟩:=get j z hj;rw[h2];exact W.aeb z' (akJ h1)
 .obtain⟨u',h1,h2⟩:=get j u hu;obtain⟨v',h3,h4⟩:=get k v hv;exact W.apart j k u' v' h1 h3 (by rw[← h2,← h4];exact e)
 .obtain⟨z',h1,h2⟩:=get j z hz;rw[h2];exact W.idx j z' h1
theorem aec{G:iC}(hE:nR P G Θ Γ w0 M){ops:Array Oper}{Q:Exit->Act->World->Prop}{R:Reg}{t0:Nat}{path:List bP}{L L':Nat->Bool}{i:Nat}{o:Oper}
 (W:Way R ops t0 path) (hle:t0<=ops.size) (hit:i<t0)
 (hRn:R.n=st.n) (hDn:∀i o d,ops[i]? =some o->i<t0->o.dst=some d->d<st.n) (hgd:∀i o g b,ops[i]? =some o->i<t0->o.guard=some (g,b)->∃og d,ops[g]? =some og/\og.dst=some d) (hcmp:∀e∈R.E,yG R.ms R.E e=true) (hEi:∀j o',ops[j]? =some o'->j<t0->rU Γ o'.op=true->j∈R.E)
 (hA:∀e q,BB R.A e q=true->∃j,idxOf R.D (q / 64) 0=some j/\(R.ms.getD e 0).testBit j=true)
 (ho:ops[i]? =some o) (hen:Enabled Θ Γ R (bC R.D st) path i o)
 (hok:∀j o x,ops[j]? =some o->path[j]? =some x->L j=true->nT Θ Γ R (bC R.D st) path j o x)
 (hcl:∀j k,L j=true->(R.ms.getD j 0).testBit k=true->L k=true)
 (hsub:∀j,(R.ms.getD i 0).testBit j=true->L j=true) (hi:L i=false) (hi':L' i=true) (h:∀j,j≠i->L' j=L j)
 (hR:Rel w0 M T γ (after (bC R.D st) path L) a w) {K:Act->World->Prop}
 (hK:∀x γ' a' w',(∃y,path[i]? =some y/\x.d=y.d)->nT Θ Γ R (bC R.D st) (path.set i x) i o x->Rel w0 M T γ' (after (bC R.D st) (path.set i x) L') a' w'->K a' w'):
 wpOp P ops Q i K a w:=by
 obtain⟨d,hd,hm,hcase⟩:=hen;have hlen:=W.len;have hil:i<path.length:=by omega
 have hy:path[i]? =some path[i]:=by simp[hil]
 have hyd:path[i].d=d:=by have:=W.dst i o _ ho hy;rw[hd]at this;exact(Option.some.inj this).symm
 have hdD:aH R.D d=true:=by rw[← hyd];exact W.aeb _ (akJ hy)
 have X3:o.dst=some d\/(o.dst=none/\sS o.op=true/\st.n<=d):=by
  unfold oH at hd;split at hd
  .next e he=>cases hd;exact .inl he
  .next he=>
   split at hd
   .next hs=>cases hd;exact .inr ⟨he,hs,by omega⟩
   .cases hd
 have hfit:=W.fits hle hok;have hne:∀y∈pick path 0 L,y.d≠d:=λy hy' e=>by obtain⟨j,h1,h2⟩:=(iM _ _).1 hy';rw[akr]at h1;have:=W.apart j i y _ h2 hy (by rw[hyd];exact e);subst this;rw[hi]at h1;cases h1
 have heff:∀j x,path[j]? =some x->x.u≠[]->L j=true->j∈R.E:=λj x hx hu hL=>by
  obtain⟨hj,_⟩:=akc.1 hx;have hoj:ops[j]? =some (ops[j]'(by omega)):=by simp
  exact hEi j _ hoj (by omega) ((hok j _ x hoj hx hL).fit.2.2.1 hu)
 have aa4:yG R.ms R.E i=true->∀j,j∈R.E->L j=true->(R.ms.getD i 0).testBit j=true:=λhc j hjE hL=>by
  have:=akk.1 hc j hjE;rw[ald,ald]at this;rcases this with g|g|g
  .have:=aj3 g;subst this;rw[hi]at hL;cases hL
  .exact g
  .have:=hcl j i hL g;rw[hi]at this;cases this
 have hmore:(viewAt R (bC R.D st) path i).more (after (bC R.D st) path L):=
  aau hfit hsub W.idx hi (λk hk=>by
   cases hb:(R.ms.getD k 0).testBit i with
   |false=>rfl
   |true=>have:=hcl k i hk hb;rw[hi]at this;cases this) (λhc j x hx hu hL=>aa4 hc j (heff j x hx hu hL) hL) λe x hx hL q hq=>by
    obtain⟨hj,_⟩:=akc.1 hx;have hoj:ops[e]? =some (ops[e]'(by omega)):=by simp
    exact((hok e _ x hoj hx hL).fit.2.2.2 q hq).1
 have agU:∀q,aH (jS (pick path 0 L)) q=true->aH R.D (q / 64)=true/\q / 64≠d:=λq hq=>by
  obtain⟨x,hx,hxq⟩:=(kz _).1 hq;obtain⟨e,h1,h2⟩:=(iM _ _).1 hx;rw[akr]at h1;obtain⟨hj,_⟩:=akc.1 h2;have hoj:ops[e]? =some (ops[e]'(by omega)):=by simp
  have hf:=(hok e _ x hoj h2 h1).fit.2.2.2 q hxq;refine⟨hf.2,λe2=>?_⟩;obtain⟨j,g1,g2⟩:=hA e q hf.1;have:=W.idx i _ hy;rw[hyd,← e2,g1]at this;cases this;have:=hcl e i h1 g2;rw[hi]at this;cases this
 have hnone:∀q,q / 64=d->(after (bC R.D st) path L).ah q=none:=λq hq=>by
  have hqD:aH R.D (q / 64)=true:=by rw[hq];exact hdD
  have hP:(jd (bC R.D st) (pick path 0 L)).ah q=none:=by
   unfold jd;dsimp only;rw[xB _ λy hy'=>by
    cases hl:look y.u q with
    |none=>rfl
    |some z=>have:=(hfit.upd y hy' q z hl).2;rw[hqD]at this;cases this]
   dsimp only;rw[D6 _ λy hy'=>by
    cases hl:look y.δ q with
    |none=>rfl
    |some z=>exact(hne y hy' ((oN (hfit.new y hy') hl).symm.trans hq)).elim]
   exact WW hqD
  unfold after;rw[jD];simp only[St.kill,hP,alE];cases aH (jS (pick path 0 L)) q<;>rfl
 have hself:∀x:bP,∀j,(R.ms.getD i 0).testBit j=true->path[j]? =(path.set i x)[j]? :=λx j hj=>by
  by_cases e:i=j
  .subst e;rw[kT hm (aj8 _)]at hj;cases hj
  .rw[akZ e]
 have fin:∀(x:bP)(γ':Nat->Value)(w':World)(u:Value),x.d=d->(o.dst=none->x.v=.jH [])->(∀q y,look x.u q=some y->aH R.U q=true/\aH R.D (q / 64)=false)->xA x.d x.δ=true->(x.u≠[]->i∈R.E)->(∀q∈x.k,aH R.D (q / 64)=true/\q / 64≠d)->
  nT Θ Γ R (bC R.D st) path i o x->Rel w0 M T γ' (((oL x.k (after (bC R.D st) path L)).adds x.u).adds x.δ) a w'->aN (aj w0 T γ' (((oL x.k (after (bC R.D st) path L)).adds x.u).adds x.δ) w') x.v u->K (a.put o.dst u) w':=by
  intro x γ' w' u hxd hxv hxu hxn hxE hxk Ak hR' hv;have hn2:(((oL x.k (after (bC R.D st) path L)).adds x.u).adds x.δ).n=st.n:=by rw[(zF _ _).2,(zF _ _).2,jD];unfold after;rw[jD];rfl
  have agc:∀q,aH (jS (pick (path.set i x) 0 L')) q=true->aH R.D (q / 64)=true/\q / 64≠d:=λq hq=>by
   obtain⟨y,hy1,hyq⟩:=(kz _).1 hq;obtain⟨e,h1,h2⟩:=(iM _ _).1 hy1;rw[akr]at h1;by_cases Qs:e=i
   .subst Qs;rw[ali hil]at h2;cases h2;exact hxk q hyq
   .rw[akZ (alH Qs)]at h2;rw[h e Qs]at h1;exact agU q ((kz _).2 ⟨y,(iM _ _).2 ⟨e,by rw[akr];exact h1,h2⟩,hyq⟩)
  have ab5:∀q,aH (jS (pick (path.set i x) 0 L')) q=true->(((oL x.k (after (bC R.D st) path L)).adds x.u).adds x.δ).ah q=none:=λq hq=>by
   obtain⟨g1,g2⟩:=agc q hq;rw[jM,jM];have hδq:look x.δ q=none:=by
    cases hl:look x.δ q with
    |none=>rfl
    |some z=>exact(g2 ((oN hxn hl).trans hxd)).elim
   have huq:look x.u q=none:=by
    cases hl:look x.u q with
    |none=>rfl
    |some z=>have:=(hxu q z hl).2;rw[g1]at this;cases this
   rw[hδq,huq];dsimp only;rw[jD];unfold after;rw[jD];obtain⟨y,hy1,hyq⟩:=(kz _).1 hq;obtain⟨e,h1,h2⟩:=(iM _ _).1 hy1;rw[akr]at h1;by_cases Qs:e=i
   .subst Qs;rw[ali hil]at h2;cases h2;simp only[St.kill,oM.2 hyq]
   .rw[akZ (alH Qs)]at h2;rw[h e Qs]at h1;have:=(kz (o:=q) (pick path 0 L)).2 ⟨y,(iM _ _).2 ⟨e,by rw[akr];exact h1,h2⟩,hyq⟩;simp only[St.kill,this,alE];cases aH x.k q<;>rfl
  have hset:Rel w0 M T γ' (St.set (((oL x.k (after (bC R.D st) path L)).adds x.u).adds x.δ) x.d x.v) (a.put o.dst u) w':=by
   rcases X3 with hs|⟨hs,_,hs2⟩
   .rw[hs,← hxd];exact hR'.set x.d (by rw[hn2,hxd];exact hDn i o d ho hit hs) x.v u hv
   .rw[hs];exact hR'.aga x.d (by rw[hn2,hxd];exact hs2) x.v (hxv hs)
  have W':Way R ops t0 (path.set i x):=W.set hy (by rw[hxd,hyd]);have agV:Fits R.D R.U (pick (path.set i x) 0 L'):=by
   refine W'.fits (Θ:=Θ) (Γ:=Γ) (base:=bC R.D st) hle λj o' z ho' hz hL=>?_;by_cases e:j=i
   .subst e;rw[ali hil]at hz;cases hz;rw[ho]at ho';cases ho';exact Ak.agree (hself x)
   .rw[akZ (alH e)]at hz;rw[h j e]at hL;refine(hok j o' z ho' hz hL).agree λk hk=>?_;have hLk:=hcl j k hL hk;have hki:i≠k:=λe=>by subst e;rw[hi]at hLk;cases hLk
    rw[akZ hki]
  rw[abZ hil hi hi' h agV (λy hy'=>by rw[hxd];exact hne y hy') (λhu j y hj hL hy'=>by
   refine alD λhyu=>?_;have hjE:=heff j y hy' hyu hL;have:=aa4 (hcmp i (hxE hu)) j hjE hL;rw[kT hm (Nat.le_of_lt hj)]at this;cases this) (AV.pV ab5 _ _ hv) (λq y hq=>by
   have mG:(((oL x.k (after (bC R.D st) path L)).adds x.u).adds x.δ).ah q=some y:=by
    rw[jM,jM];rcases hq with hq|hq
    .rw[hq]
    .have:look x.δ q=none:=by
      cases hl:look x.δ q with
      |none=>rfl
      |some z=>have h1:=(hxu q y hq).2;rw[(oN hxn hl).trans hxd,hdD]at h1;cases h1
     rw[this,hq]
   refine⟨?_,ay.pV ab5 y (hR'.ah q y mG)⟩;cases hb:aH (jS (pick (path.set i x) 0 L')) q with
   |false=>rfl
   |true=>rw[ab5 q hb]at mG;cases mG)]at hset
  exact hK x γ' _ _ ⟨_,hy,by rw[hxd,hyd]⟩ (Ak.agree (hself x)) hset
 have fin2:∀(x:bP)(γ':Nat->Value)(w':World)(u:Value),x.d=d->x.u=[]->(o.dst=none->False)->xA x.d x.δ=true->(∀q∈x.k,aH R.D (q / 64)=true/\q / 64≠d)->
  nT Θ Γ R (bC R.D st) path i o (kQ R.F x)->Rel w0 M T γ' (((oL x.k (after (bC R.D st) path L)).adds []).adds x.δ) a w'->aN (aj w0 T γ' (((oL x.k (after (bC R.D st) path L)).adds []).adds x.δ) w') x.v u->K (a.put o.dst u) w':=by
  intro x γ' w' u hxd hxu hno hxn hxk Ak hR' hv;obtain⟨l1,l2,l3,l4⟩:=lS R.F x;refine fin (kQ R.F x) γ' w' u (l1.trans hxd) (λh=>(hno h).elim) (λq y hy=>by rw[l2,hxu]at hy;cases hy) (akk.2 λy hy=>by rw[l1];exact akk.1 hxn y (l4 y hy)) (λhne=>(hne (l2.trans hxu)).elim) (by rw[l3];exact hxk) Ak ?_ ?_
  all_goals
   rw[l3,l2,hxu];unfold kQ;split
   .next q q' e r l fr _ hv2 hu2 hδ=>
    split
    .next hb=>
     have e1:=aj3 hb;subst e1;rw[hδ]at hR' hv hxn;rw[hv2]at hv;have hqd:q / 64=d:=by have:=aj3 (akk.1 hxn _ akh);exact this.trans hxd
     have hq0:(oL x.k (after (bC R.D st) path L)).ah q=none:=by rw[jD];simp only[St.kill,hnone q hqd,alE];cases aH x.k q<;>rfl
     have:=aea (hR.oL x.k) hq0 hR' hv
     first|exact this.1|exact this.2
    .first|exact hR'|exact hv
   .first|exact hR'|exact hv
 have hgv:∀g b y,o.guard=some (g,b)->(R.ms.getD i 0).testBit g=true->path[g]? =some y->∃og,ops[g]? =some og/\og.dst=some y.d/\∃u,a.tmps[y.d]? =some u/\aN (aj w0 T γ (after (bC R.D st) path L) w) (y.v.kill (aH (jS (pick path 0 L)))) u:=by
  intro g b y hgo hg hy';obtain⟨hgl,_⟩:=akc.1 hy';have hog:ops[g]? =some (ops[g]'(by omega)):=by simp
  have agd:(ops[g]'(by omega)).dst=some y.d:=by obtain⟨og,e,h1,h2⟩:=hgd i o g b ho hit hgo;rw[hog]at h1;cases h1;have:=W.dst g _ y hog hy';unfold oH at this;rw[h2]at this;rw[h2];exact this
  have hyD:y.d<st.n:=hDn g _ _ hog (by omega) agd;have hin:y∈pick path 0 L:=(iM _ _).2 ⟨g,by rw[akr];exact hsub g hg,hy'⟩;have Tn:(after (bC R.D st) path L).tmps y.d=y.v.kill (aH (jS (pick path 0 L))):=by unfold after;rw[jD];show(rQ (pick path 0 L) y.d _).kill _=_;rw[Gx _ hin λz hz e=>hfit.one y hin z hz e]
  have hr1:=hR.tmps y.d;rw[Tn]at hr1;have hsz:y.d<a.tmps.size:=by rw[hR.size];unfold after;rw[jD];exact hyD
  refine⟨_,hog,agd,a.tmps[y.d],by simp,?_⟩;simpa[Array.getD,hsz]using hr1
 unfold wpOp;simp only[ho];rcases hcase with⟨hw,hcase⟩|hun
 .have hwant:Region.wanted o (yielded ops a.tmps)=true:=by
   rcases hw with e|⟨g,b,y,e1,e2,e3,e4⟩
   .unfold Region.wanted;rw[e]
   .obtain⟨og,k1,k2,u,k3,k4⟩:=hgv g b y e1 e2 e3;rw[e4]at k4;have k4:u=.bool b:=k4;subst k4;unfold Region.wanted;rw[e1];simp[yielded,k1,k2,k3]
  rw[if_pos hwant];left;rcases hcase with⟨he,ha,p,v,δ,hcalm,hp,hn⟩|⟨he,ha,p,q,y,happ,hp,hq1,hq2,hq3⟩|⟨he,hst,υ,hυ,hin⟩|⟨⟨he,hst⟩,p,ρ,os,hrel,hp,hall⟩
  .obtain⟨v',hc',hless⟩:=acL hmore d o.op hcalm;have hfr:gJ (after (bC R.D st) path L) δ=true:=by refine akk.2 λz hz=>?_;rw[hnone z.1 (aj3 (akk.1 hn z hz))];rfl
   refine DK hE hR o hc' hp hfr ?_;intro u γ' w' hR' hv';have Tc:aN (aj w0 T γ' ((after (bC R.D st) path L).adds δ) w') v u:=by
    rcases hless with e|e
    .rw[e];trivial
    .rw[← e];exact hv'
   have Ak:nT Θ Γ R (bC R.D st) path i o (kQ R.F ⟨d,v,[],δ,[]⟩):=by obtain⟨l1,_⟩:=lS R.F ⟨d,v,[],δ,[]⟩;refine⟨by rw[l1];exact hd,hm,.inl ⟨hw,.inl ⟨he,ha,p,v,δ,by rw[l1];exact hcalm,hp,by rw[l1];exact hn,by rw[l1]⟩⟩⟩
   exact fin2 ⟨d,v,[],δ,[]⟩ γ' w' u rfl rfl (λh=>by
    rcases X3 with hs|⟨_,hs,_⟩
    .rw[h]at hs;cases hs
    .rw[WZ hs]at he;cases he) hn (λq hq=>by cases hq) Ak hR' Tc
  .have agW:=aap hmore happ;have Ak:nT Θ Γ R (bC R.D st) path i o (kQ R.F ⟨d,.sv (.one (.ref (d*64+1))),[],[(d*64+1,y)],[q]⟩):=by obtain⟨l1,_⟩:=lS R.F ⟨d,.sv (.one (.ref (d*64+1))),[],[(d*64+1,y)],[q]⟩;refine⟨by rw[l1];exact hd,hm,.inl ⟨hw,.inr (.inl ⟨he,ha,p,q,y,happ,hp,by rw[l1];exact⟨hq1,hq2,hq3⟩,by rw[l1]⟩)⟩⟩
   have hkq:∀s:St,s.kill (aH [q])=s.kill (Nat.beq q ·):=λs=>by
    rw[show aH [q]=(Nat.beq q ·)from funext λo=>by
     simp only[aH];cases h1:Nat.beq o q with
     |true=>rw[aj3 h1,akN]
     |false=>
      cases h2:Nat.beq q o with
      |false=>rfl
      |true=>rw[aj3 h2,akN]at h1;cases h1]
   refine acT hE hR o (n:=d*64+1) agW hp (hnone (d*64+1) (aft d)) λu γ' w' hR' hv=>?_;rw[← hkq]at hR' hv;exact fin2 ⟨d,.sv (.one (.ref (d*64+1))),[],[(d*64+1,y)],[q]⟩ γ' w' u rfl rfl (λh=>by
    rcases X3 with hs|⟨_,hs,_⟩
    .rw[h]at hs;cases hs
    .rw[WZ hs]at he;cases he) (by show(Nat.beq ((d*64+1) / 64) d&&true)=true;rw[show(d*64+1) / 64=d by omega,akN];rfl)
    (λr hr=>by rw[show r=q by simpa using hr];exact⟨hq1,hq2⟩) Ak hR' hv
  .have Ak:nT Θ Γ R (bC R.D st) path i o ⟨d,.jH [],υ,[],[]⟩:=⟨hd,hm,.inl ⟨hw,.inr (.inr (.inl ⟨he,hst,υ,hυ,hin,rfl⟩))⟩⟩;obtain⟨f1,f2,f3,_⟩:=Ak.fit;refine VK hE hR hmore o hυ λγ' w' hR'=>?_;exact fin ⟨d,.jH [],υ,[],[]⟩ γ' w' undef rfl (λ_=>rfl) f2 f1 (λ_=>hEi i o ho hit he) (λq hq=>by cases hq) Ak hR' ⟨#[],rfl,trivial⟩
  .refine YX hE hR hmore o hrel hp hnone hall λt v υ δ u γ' w' ht hres hR' hv=>?_;have Ak:nT Θ Γ R (bC R.D st) path i o ⟨d,v,υ,δ,[]⟩:=⟨hd,hm,.inl ⟨hw,.inr (.inr (.inr ⟨⟨he,hst⟩,rfl,p,ρ,os,t,hrel,hp,ht,hall,hres⟩))⟩⟩;obtain⟨f1,f2,f3,_⟩:=Ak.fit;exact fin ⟨d,v,υ,δ,[]⟩ γ' w' u rfl (λh=>by
    rcases X3 with hs|⟨_,hs,_⟩
    .rw[h]at hs;cases hs
    .rw[hst]at hs;cases hs) f2 f1 (λ_=>hEi i o ho hit he) (λq hq=>by cases hq) Ak hR' hv
 .have hwant:Region.wanted o (yielded ops a.tmps)=false:=by
   obtain⟨g,b,y,e1,e2,e3,e4⟩:=hun;obtain⟨og,k1,k2,u,k3,k4⟩:=hgv g b y e1 e2 e3;unfold Region.wanted;rw[e1];rcases e4 with⟨c,e4,hne'⟩|⟨vs,e4⟩
   .rw[e4]at k4;have k4:u=.bool c:=k4;subst k4;cases c<;>cases b<;>first|(exact(hne' rfl).elim)|simp[yielded,k1,k2,k3]
   .rw[e4]at k4;obtain⟨us,rfl,_⟩:=k4;simp[yielded,k1,k2,k3]
  rw[if_neg (by rw[hwant];simp)];exact fin (skipped d) γ w undef rfl (λ_=>rfl) (λq y hy=>by cases hy) rfl (λhu=>(hu rfl).elim) (λq hq=>by cases hq) ⟨hd,hm,.inr ⟨hun,rfl⟩⟩ hR ⟨#[],rfl,trivial⟩
theorem fill{G:iC}(hE:EnvB P G Θ Γ){R:Reg}{base:St}{front:List Oper}{path:List bP}{L:Nat->Bool}
 (J6:∀ext:List bP,RD Θ Γ R base front ext->∀o,front[ext.length]? =some o->Enabled Θ Γ R base ext ext.length o)
 (hok:∀j o x,front[j]? =some o->path[j]? =some x->L j=true->nT Θ Γ R base path j o x) (hlen:path.length=front.length)
 (hcl:∀j k,L j=true->(R.ms.getD j 0).testBit k=true->L k=true):
 ∀n,n<=front.length->∃ext:List bP,ext.length=n/\RD Θ Γ R base front ext/\∀j,j<n->L j=true->ext[j]? =path[j]? :=by
 intro n
 induction n with
 |zero=>exactλ_=>⟨[],rfl,(λi o x _ hx=>by simp at hx),(λj hj=>by omega)⟩
 |succ n ih=>
  intro hn;obtain⟨ext,h1,h2,h3⟩:=ih (by omega);have ho:front[n]? =some (front[n]'(by omega)):=by simp
  have more:∀x:bP,nT Θ Γ R base (ext++[x]) n (front[n]'(by omega)) x->RD Θ Γ R base front (ext++[x]):=by
   intro x hx i o y hi hy;rcases aks i n with hlt|hge
   .rw[uD (by omega)]at hy;have:=h2 i o y hi hy;refine this.agree λj hj=>?_;have:j<i:=by
     rcases aks j i with h|h
     .exact h
     .rw[kT this.2.1 h]at hj;cases hj
    rw[uD (by omega)]
   .have:i=n:=by obtain⟨hi',_⟩:=akc.1 hy;simp at hi';omega
    subst this;rw[ho]at hi;cases hi;have e:y=x:=by rw[← h1]at hy;simpa using hy.symm
    rw[e];exact hx
  cases hL:L n with
  |true=>
   have hp:path[n]? =some (path[n]'(by omega)):=by simp
   have hx:=hok n _ _ ho hp hL;have hag:∀j,(R.ms.getD n 0).testBit j=true->path[j]? =(ext++[path[n]'(by omega)])[j]? :=λj hj=>by
    have hjn:j<n:=by
     rcases aks j n with h|h
     .exact h
     .rw[kT hx.2.1 h]at hj;cases hj
    rw[uD (by omega),h3 j hjn (hcl n j hL hj)]
   refine⟨ext++[path[n]'(by omega)],by simp[h1],more _ (hx.agree hag),λj hj hLj=>?_⟩;by_cases e:j=n
   .subst e;rw[hp,akH (by omega)];simp[h1]
   .rw[uD (by omega)];exact h3 j (by omega) hLj
  |false=>
   have hen:=J6 ext h2 _ (by rw[h1];exact ho);rw[h1]at hen;have hag:∀x:bP,(∃d,oH R.n n (front[n]'(by omega))=some d/\R.ms.getD n 0<2 ^ n)->∀j,(R.ms.getD n 0).testBit j=true->ext[j]? =(ext++[x])[j]? :=λx⟨_,_,hm⟩ j hj=>by
    have hjn:j<n:=by
     rcases aks j n with h|h
     .exact h
     .rw[kT hm h]at hj;cases hj
    rw[uD (by omega)]
   obtain⟨d,hd,hm,hc⟩:=hen;have hx:∃x,nT Θ Γ R base ext n (front[n]'(by omega)) x:=by
    rcases hc with⟨hw,⟨he,ha,p,v,δ,hcalm,hp,hnm⟩|⟨he,ha,p,q,y,happ,hp,hq⟩|⟨he,hst,υ,hυ,hin⟩|⟨⟨he,hst⟩,p,ρ,os,hrel,hp,hall⟩⟩|hun
    .exact⟨kQ R.F ⟨d,v,[],δ,[]⟩,by rw[(lS _ _).1];exact hd,hm,.inl ⟨hw,.inl ⟨he,ha,p,v,δ,by rw[(lS _ _).1];exact hcalm,hp,by rw[(lS _ _).1];exact hnm,by rw[(lS _ _).1]⟩⟩⟩
    .exact⟨kQ R.F ⟨d,.sv (.one (.ref (d*64+1))),[],[(d*64+1,y)],[q]⟩,by rw[(lS _ _).1];exact hd,hm,.inl ⟨hw,.inr (.inl ⟨he,ha,p,q,y,happ,hp,by rw[(lS _ _).1];exact hq,by rw[(lS _ _).1]⟩)⟩⟩
    .exact⟨⟨d,.jH [],υ,[],[]⟩,hd,hm,.inl ⟨hw,.inr (.inr (.inl ⟨he,hst,υ,hυ,hin,rfl⟩))⟩⟩
    .have hne:∃t,ρ.R t:=by
      unfold IY at hrel;split at hrel
      case h_2=>cases hrel
      next f args lQ hop=>
      split at hrel
      case h_2=>cases hrel
      next ms con hcon=>
      split at hrel
      case h_2=>cases hrel
      next vs os' Nv=>
      split at hrel
      case h_2=>cases hrel
      split at hrel
      case h_2=>cases hrel
      next q ρ' hq=>
      cases hrel;exact((hE.XU f ms con hcon).1 vs _ ρ hq hp).1
     obtain⟨t,ht⟩:=hne;obtain⟨⟨v,υ,δ⟩,hres⟩:=hall t ht;exact⟨⟨d,v,υ,δ,[]⟩,hd,hm,.inl ⟨hw,.inr (.inr (.inr ⟨⟨he,hst⟩,rfl,p,ρ,os,t,hrel,hp,ht,hall,hres⟩))⟩⟩
    .exact⟨skipped d,hd,hm,.inr ⟨hun,rfl⟩⟩
   obtain⟨x,hx⟩:=hx;refine⟨ext++[x],by simp[h1],more x (hx.agree (hag x ⟨d,hd,hm⟩)),λj hj hLj=>?_⟩;have:j≠n:=λe=>by subst e;rw[hL]at hLj;cases hLj
   rw[uD (by omega)];exact h3 j (by omega) hLj
end Go.Fw
namespace Go.Fw
open Go
variable {P:Program}
def handsOn(o:Oper):Option Operand:=match o.op,o.guard with
 |.move x,none=>some x
 |.extract x _,none=>some x
 |_,_=>none
def Operand.EZ(d:Nat):Operand->Bool
 |.tmp t=>!(Nat.beq t d)
 |_=>true
def RG(d:Nat)(o:Oper):Bool:=match o.op,o.guard with
 |.move x,none|.assign x,none|.extract x _,none=>Operand.EZ d x
 |.store _ a x,none=>Operand.EZ d a&&Operand.EZ d x
 |_,_=>false
def passes(f o:Oper):Bool:=match handsOn f,f.dst with
 |some x,some d=>RG d o&&(match o.dst with|some e=>!(Nat.beq e d)&&Operand.EZ e x|none=>true)
 |_,_=>false
theorem eval_put_ne{a:Act}{d:Option Tmp}{v:Value}{x:Operand}(h:∀e,d=some e->Operand.EZ e x=true):(a.put d v).eval x=a.eval x:=by
 cases d with
 |none=>rfl
 |some e=>
  cases x with
  |tmp t=>
   have:=h e rfl;have hne:e≠t:=λh=>by subst h;simp[Operand.EZ]at this
   show(a.tmps.setIfInBounds e v).getD t undef=a.tmps.getD t undef;simp only[alM];rw[akx hne]
  |const _=>rfl
  |global _=>rfl
  |func _=>rfl
theorem put_comm{a:Act}{d e:Option Tmp}{u v:Value}(h:∀x y,d=some x->e=some y->x≠y):(a.put d u).put e v=(a.put e v).put d u:=by
 cases d with
 |none=>rfl
 |some x=>cases e with
  |none=>rfl
  |some y=>have:=h x y rfl rfl;simp only[Act.put];rw[Array.setIfInBounds_comm _ _ this]
theorem YZ{f:Oper}{x:Operand}(hf:handsOn f=some x):f.guard=none/\
 ((∃g:Value->Option Value,(∀b:Act,∀w',(match g (b.eval x)with|some u=>(execOp b.eval f).run P w'=.ok (.value u) w'|none=>∃m,(execOp b.eval f).run P w'=m/\∀next Q,¬f.upon P b next Q m)))):=by
 unfold handsOn at hf;split at hf
 .next y hop hg=>cases hf;exact⟨hg,λv=>some v,λb w'=>by simp[execOp,hop]⟩
 .next y ix hop hg=>
  cases hf;refine⟨hg,λv=>match v with|.tuple vs=>vs[ix]? |_=>none,λb w'=>?_⟩;cases hv:b.eval x with
  |tuple vs=>
   simp only;cases hq:vs[ix]? with
   |some u=>simp[execOp,hop,hv,Instr.extract,hq]
   |none=>
    refine⟨_,rfl,λnext Q=>?_⟩;simp[execOp,hop,hv,Instr.extract,hq,stuck,Oper.upon]
  |_=>refine⟨_,rfl,λnext Q=>?_⟩;simp[execOp,hop,hv,Instr.extract,stuck,Oper.upon]
 .cases hf
theorem XD{d:Nat}{o:Oper}(h:RG d o=true):o.guard=none/\
 (∀(a:Act)(v:Value),execOp (a.put (some d) v).eval o=execOp a.eval o)/\
 (∀(a:Act)(w:World),(∃v w',(execOp a.eval o).run P w=.ok (.value v) w')\/(∃w',(execOp a.eval o).run P w=.ok .skip w')\/∃x w',(execOp a.eval o).run P w=.halt x w'):=by
 unfold RG at h;have ev:∀(a:Act)(v:Value)(x:Operand),Operand.EZ d x=true->(a.put (some d) v).eval x=a.eval x:=λa v x hx=>eval_put_ne λe he=>by cases he;exact hx
 split at h
 .next x hop hg=>
  refine⟨hg,λa v=>?_,λa w=>.inl ⟨a.eval x,w,?_⟩⟩
  .simp only[execOp,hop,ev a v x h]
  .simp[execOp,hop]
 .next x hop hg=>
  refine⟨hg,λa v=>?_,λa w=>.inl ⟨a.eval x,w,?_⟩⟩
  .simp only[execOp,hop,ev a v x h]
  .simp[execOp,hop]
 .next x ix hop hg=>
  refine⟨hg,λa v=>?_,λa w=>?_⟩
  .simp only[execOp,hop,ev a v x h]
  .cases hr:(Instr.extract (a.eval x) ix).run P w with
   |ok u w'=>exact .inl ⟨u,w',by simp[execOp,hop,hr]⟩
   |halt u w'=>exact .inr (.inr ⟨u,w',by simp[execOp,hop,hr]⟩)
 .next t b x hop hg=>
  rw[aj0]at h;refine⟨hg,λa v=>?_,λa w=>?_⟩
  .simp only[execOp,hop,ev a v b h.1,ev a v x h.2]
  .cases hr:(Instr.storeAt t (a.eval b) (a.eval x)).run P w with
   |ok u w'=>exact .inr (.inl ⟨w',by simp[execOp,hop,hr]⟩)
   |halt u w'=>exact .inr (.inr ⟨u,w',by simp[execOp,hop,hr]⟩)
 .cases h
def stepW(P:Program)(ops:Array Oper)(Q:Exit->Act->World->Prop)(o:Oper)(K:Act->World->Prop)(a:Act)(w:World):Prop:=
 if Region.wanted o (yielded ops a.tmps)then o.wp P a w K Q\/(o.asks P a w/\LetsOut Q)else K (a.put o.dst undef) w
theorem J7{ops:Array Oper}{Q:Exit->Act->World->Prop}{o:Oper}{K K':Act->World->Prop}{a:Act}{w:World}(h:∀a w,K a w->K' a w)(hs:stepW P ops Q o K a w):stepW P ops Q o K' a w:=by
 unfold stepW at*;split
 .next hw=>rw[if_pos hw]at hs;exact hs.imp (Oper.wp_mono h) id
 .next hw=>rw[if_neg hw]at hs;exact h _ _ hs
theorem D7{ops:Array Oper}{Q:Exit->Act->World->Prop}(hO:¬LetsOut Q){o:Oper}(hg:o.guard=none){K:Act->World->Prop}{a:Act}{w:World}:stepW P ops Q o K a w↔o.wp P a w K Q:=by
 have hw:Region.wanted o (yielded ops a.tmps)=true:=by simp[Region.wanted,hg]
 unfold stepW;rw[if_pos hw];exact⟨λh=>h.elim id λh=>(hO h.2).elim,.inl⟩
theorem ab6{ops:Array Oper}{Q:Exit->Act->World->Prop}(hQ:∀c a w,¬Q (.panic c) a w)(hO:¬LetsOut Q){f o:Oper}(h:passes f o=true){K:Act->World->Prop}{a:Act}{w:World}
 (hs:stepW P ops Q f (stepW P ops Q o K) a w):stepW P ops Q o (stepW P ops Q f K) a w:=by
 unfold passes at h;split at h
 .next x d hx hd=>
  rw[aj0]at h;obtain⟨hp,hde⟩:=h;obtain⟨hgf,g,hg⟩:=YZ (P:=P) hx;obtain⟨hgo,hsame,hout⟩:=XD (P:=P) hp;rw[D7 hO hgf]at hs;rw[D7 hO hgo];have hxo:∀(v:Value),(a.put o.dst v).eval x=a.eval x:=λv=>eval_put_ne λe he=>by rw[he]at hde;simp only[aj0]at hde;exact hde.2
  have hcomm:∀(u v:Value),(a.put f.dst u).put o.dst v=(a.put o.dst v).put f.dst u:=λu v=>put_comm λx y hx hy=>by rw[hd]at hx;cases hx;rw[hy]at hde;simp only[aj0,alu]at hde;intro e;subst e;simp at hde
  have h0:=hg a w;cases hga:g (a.eval x)with
  |none=>
   rw[hga]at h0;obtain⟨m,hm,hno⟩:=h0;unfold Oper.wp at hs;rw[hm]at hs;exact(hno _ _ hs).elim
  |some u=>
   rw[hga]at h0;simp only at h0;unfold Oper.wp at hs;rw[h0]at hs;have hs:stepW P ops Q o K (a.put f.dst u) w:=hs;rw[D7 hO hgo]at hs;unfold Oper.wp at hs ⊢;rw[hd,hsame]at hs;rw[← hd]at hs;have again:∀(v:Value)(w':World),K ((a.put f.dst u).put o.dst v) w'->stepW P ops Q f K (a.put o.dst v) w':=by intro v w' hK;rw[D7 hO hgf];have h1:=hg (a.put o.dst v) w';rw[hxo,hga]at h1;simp only at h1;unfold Oper.wp;rw[h1];show K _ _;rw[← hcomm];exact hK
   rcases hout a w with⟨v,w',hr⟩|⟨w',hr⟩|⟨y,w',hr⟩
   .rw[hr]at hs ⊢;exact again v w' hs
   .rw[hr]at hs ⊢;exact again undef w' hs
   .rw[hr]at hs;cases y<;>simp only[Oper.upon]at hs;exact(hQ _ _ _ hs).elim
 .cases h
def Am(P:Program)(ops:Array Oper)(Q:Exit->Act->World->Prop)(K:Act->World->Prop):List Oper->Act->World->Prop
 |[]=>K
 |o::r=>stepW P ops Q o (Am P ops Q K r)
theorem Qx{ops:Array Oper}{Q:Exit->Act->World->Prop}:∀(l:List Oper),Am P ops Q (Q .normal) l=wpList P ops Q l
 |[]=>rfl
 |o::r=>by
  funext a w
  rw[Am,Qx r];rfl
theorem RH{ops:Array Oper}{Q:Exit->Act->World->Prop}(hQ:∀c a w,¬Q (.panic c) a w)(hO:¬LetsOut Q){o:Oper}{K:Act->World->Prop}(B:List Oper):
 ∀(A:List Oper)(a:Act)(w:World),(∀f∈A,passes f o=true)->Am P ops Q K (A++o::B) a w->stepW P ops Q o (Am P ops Q K (A++B)) a w
 |[],_,_,_,hs=>hs
 |f::A,a,w,h,hs=>by have hs:stepW P ops Q f (Am P ops Q K (A++o::B)) a w:=hs;exact ab6 hQ hO (h f akh) (J7 (λa w h'=>RH hQ hO B A a w (λf hf=>h f (akg _ hf)) h') hs)
theorem wpOp_step{ops:Array Oper}{Q:Exit->Act->World->Prop}{i:Nat}{o:Oper}(ho:ops[i]? =some o){K:Act->World->Prop}{a:Act}{w:World}:wpOp P ops Q i K a w↔stepW P ops Q o K a w:=by unfold wpOp stepW;simp only[ho]
theorem NR{ops:Array Oper}{listed:Array Bool}(hcl:∀i j,listed.getD i false=true->((masks ops.toList []).getD i 0).testBit j=true->listed.getD j false=true){i:Nat}{o:Oper}(ho:ops[i]? =some o)
 (hi:i∈Region.ready .any ops listed) (j:Nat) (hj:((masks ops.toList []).getD i 0).testBit j=true):listed.getD j false=true:=by
 obtain⟨o',ho',hn,hall⟩:=wM.1 hi;rw[ho]at ho';cases ho';obtain⟨e,he,hb,hej⟩:=ac8 (ops:=ops.toList) (i:=i) (o:=o) (by simpa using ho) hj;rcases hej with rfl|h
 .exact hall e he hb
 .exact hcl e.on j (hall e he hb) h
theorem aed{ops:Array Oper}{Q:Exit->Act->World->Prop}(hQ:∀c a w,¬Q (.panic c) a w)(hO:¬LetsOut Q){t0:Nat}{S:Nat->Prop}
 (hfl:∀i o j f,ops[i]? =some o->ops[j]? =some f->j<i->t0<=i\/(S i/\S j)->((masks ops.toList []).getD i 0).testBit j=true\/(S j/\passes f o=true)) (hS:∀j,S j->j<t0)
 (hlt:∀i o,ops[i]? =some o->(masks ops.toList []).getD i 0<2 ^ i):
 ∀(fuel:Nat)(F:List (Nat×Oper))(l:List Oper)(k:Nat)(listed:Array Bool)(a:Act)(w:World),t0<=k->k<=ops.size->(∀j,l[j]? =ops[k+j]?)->listed.size=ops.size->
  (∀x∈F,ops[x.1]? =some x.2/\S x.1)->F.Pairwise (λx y=>x.1<y.1)->
  (∀i,i<ops.size->(listed.getD i false=true↔i<k/\∀x∈F,x.1≠i))->
  (∀i j,listed.getD i false=true->((masks ops.toList []).getD i 0).testBit j=true->listed.getD j false=true)->
  F.length+ops.size<=k+fuel->Am P ops Q (Q .normal) (F.map (·.2)++l) a w->wpAny P .any ops Q fuel listed a w:=by
 intro fuel;have adf:∀{i:Nat}{o:Oper},ops[i]? =some o->∀e∈o.after,Region.binds .any e=true->e.on<i:=by
  intro i o ho e he hb;have TW:=WU (ops:=ops.toList) (i:=i) (o:=o) (by simpa using ho) he hb;rcases aks e.on i with h|h
  .exact h
  .rw[kT (hlt i o ho) h]at TW;cases TW
 have afu:∀(k:Nat)(l:List Oper)(listed:Array Bool),(∀j,l[j]? =ops[k+j]?)->listed.size=ops.size->(∀i,i<ops.size->(listed.getD i false=true↔i<k/\∀x∈([]:List (Nat×Oper)),x.1≠i))->l=[]->Region.ready .any ops listed=[]:=by
  intro k l listed hl hsz hL hnil;have hend:ops.size<=k:=by
   rcases aks k ops.size with h|h
   .have:=hl 0;simp[h,hnil]at this
   .exact h
  refine List.eq_nil_iff_forall_not_mem.2 λi hi=>?_;obtain⟨o,ho,hn,_⟩:=wM.1 hi;obtain⟨hi1,_⟩:=aj7.1 ho;have:=(hL i hi1).2 ⟨by omega,λx hx=>by cases hx⟩;rw[zI (by omega),this]at hn;cases hn
 induction fuel with
 |zero=>
  intro F l k listed a w hk hkz hl hsz hF hp hL hcl hf hw;have hk2:ops.size<=k/\F.length=0:=by
   rcases aks k ops.size with h|h
   .omega
   .refine⟨h,?_⟩;cases F with
    |nil=>rfl
    |cons x F=>exfalso;have:=hl 0;obtain⟨h1,h2⟩:=hF x akh;have:=hS _ h2;simp only[aj6]at hf;omega
  obtain⟨hk2,hF0⟩:=hk2;have hFn:F=[]:=akL.1 hF0;subst hFn;have hln:l=[]:=by
   cases l with
   |nil=>rfl
   |cons o l=>have:=hl 0;rw[amx (by omega)]at this;cases this
  subst hln;exact wpAny_done (afu k [] listed hl hsz hL rfl) hw 0
 |succ fuel ih=>
  intro F l k listed a w hk hkz hl hsz hF hp hL hcl hf hw;have hset:∀i,i<listed.size->∀j,(listed.setIfInBounds i true).getD j false=(if j=i then true else listed.getD j false):=by
   intro i hi j;split
   .next e=>subst e;simp[Array.getD,hi]
   .next e=>exact getD_set_ne false (alH e)
  have adg:∀i o,ops[i]? =some o->i∈Region.ready .any ops listed->∀j m,(listed.setIfInBounds i true).getD j false=true->((masks ops.toList []).getD j 0).testBit m=true->(listed.setIfInBounds i true).getD m false=true:=by
   intro i o ho hi j m hj hm;obtain⟨hi1,_⟩:=aj7.1 ho;rw[hset i (by omega)]at hj ⊢;split
   .rfl
   .split at hj
    .next e=>subst e;exact NR hcl ho hi m hm
    .exact hcl j m hj hm
  refine⟨λhnone=>?_,λi hi=>?_⟩
  .cases F with
   |cons x F=>
    exfalso;obtain⟨hx1,hx2⟩:=hF x akh;have ajN:=hS _ hx2;obtain⟨hxs,_⟩:=aj7.1 hx1;have hun:listed.getD x.1 true=false:=by
     rw[zI (by omega)];cases hb:listed.getD x.1 false with
     |false=>rfl
     |true=>exact(((hL x.1 hxs).1 hb).2 x akh rfl).elim
    have:x.1∈Region.ready .any ops listed:=by
     refine wM.2 ⟨x.2,hx1,hun,λe he hb=>?_⟩;have aee:=adf hx1 e he hb;refine(hL e.on (by omega)).2 ⟨by omega,λy hy=>?_⟩;rcases akm.1 hy with rfl|hy
     .omega
     .have:=(al4.1 hp).1 y hy;omega
    rw[hnone]at this;cases this
   |nil=>
    cases l with
    |nil=>exact hw
    |cons o l=>
     exfalso;have ho:ops[k]? =some o:=by simpa using(hl 0).symm
     obtain⟨hks,_⟩:=aj7.1 ho;have hun:listed.getD k true=false:=by
      rw[zI (by omega)];cases hb:listed.getD k false with
      |false=>rfl
      |true=>have:=((hL k hks).1 hb).1;omega
     have:k∈Region.ready .any ops listed:=by refine wM.2 ⟨o,ho,hun,λe he hb=>?_⟩;have aee:=adf ho e he hb;exact(hL e.on (by omega)).2 ⟨by omega,λy hy=>by cases hy⟩
     rw[hnone]at this;cases this
  .obtain⟨o,ho,hn,_⟩:=wM.1 hi;obtain⟨his,_⟩:=aj7.1 ho;have hun:listed.getD i false=false:=by rw[← zI (by omega)];exact hn
   have hsub:=NR hcl ho hi;rw[wpOp_step ho];by_cases hFi:∃x∈F,x.1=i
   .obtain⟨x,hxF,rfl⟩:=hFi;obtain⟨A,B,rfl⟩:=List.append_of_mem hxF;obtain⟨hx1,hx2⟩:=hF x hxF;rw[ho]at hx1;have hxo:x.2=o:=(Option.some.inj hx1).symm;have hpA:∀y∈A,y.1<x.1:=λy hy=>(amF.1 hp).2.2 y hy x akh;have hpB:∀y∈B,x.1<y.1:=λy hy=>(al4.1 (amF.1 hp).2.1).1 y hy;have hw2:Am P ops Q (Q .normal) (A.map (·.2)++o::(B.map (·.2)++l)) a w:=by rw[alv,ako,hxo,aki]at hw;exact hw
    refine J7 ?_ (RH hQ hO _ _ a w (λf hf=>?_) hw2)
    .intro a' w' h';refine ih (A++B) l k _ a' w' hk hkz hl (by simpa using hsz) (λy hy=>hF y ?_) ?_ ?_ (adg x.1 o ho hi) ?_ (by rw[alv,aki];exact h')
     .rcases akS.1 hy with h|h
      .exact akR _ h
      .exact alg _ (akg _ h)
     .rw[amF]at hp ⊢;exact⟨hp.1,(al4.1 hp.2.1).2,λy hy z hz=>hp.2.2 y hy z (akg _ hz)⟩
     .intro j hj;rw[hset x.1 (by omega)];split
      .next e=>
       subst e;refine⟨λ_=>⟨by have:=hS _ hx2;omega,λy hy=>?_⟩,λ_=>rfl⟩;rcases akS.1 hy with h|h
       .have:=hpA y h;omega
       .have:=hpB y h;omega
      .next e=>
       rw[hL j hj];refine amG λ_=>⟨λh y hy=>?_,λh y hy=>?_⟩
       .rcases akS.1 hy with h'|h'
        .exact h y (akR _ h')
        .exact h y (alg _ (akg _ h'))
       .rcases akS.1 hy with h'|h'
        .exact h y (akR _ h')
        .rcases akm.1 h' with rfl|h'
         .exactλe'=>e e'.symm
         .exact h y (alg _ h')
     .simp only[aj1,aj6]at hf ⊢;omega
    .obtain⟨y,hy,rfl⟩:=alW.1 hf;obtain⟨hy1,hy2⟩:=hF y (akR _ hy);obtain⟨hys,_⟩:=aj7.1 hy1;rcases hfl x.1 o y.1 y.2 ho hy1 (hpA y hy) (.inr ⟨hx2,hy2⟩)with hb|hb
     .have:=((hL y.1 hys).1 (hsub y.1 hb)).2 y (akR _ hy) rfl;exact this.elim
     .exact hb.2
   .have hge:k<=i:=by
     rcases aks i k with h|h
     .have:=(hL i his).2 ⟨h,λx hx e=>hFi ⟨x,hx,e⟩⟩;rw[hun]at this;cases this
     .exact h
    have hik:i=k:=by
     rcases aks k i with h|h
     .exfalso;have hok:∃f,ops[k]? =some f:=⟨ops[k]'(by omega),by simp⟩;obtain⟨f,hof⟩:=hok;rcases hfl i o k f ho hof h (.inl (by omega))with hb|hb
      .have:=((hL k (by omega)).1 (hsub k hb)).1;omega
      .have:=hS _ hb.1;omega
     .omega
    subst hik;cases l with
    |nil=>have:=hl 0;rw[alm,ho]at this;cases this
    |cons o' l=>
     have ho':ops[i]? =some o':=by simpa using(hl 0).symm
     rw[ho]at ho';cases ho';refine J7 ?_ (RH hQ hO _ _ a w (λf hf=>?_) hw)
     .intro a' w' h';refine ih F l (i+1) _ a' w' (by omega) (by omega) (λj=>by have:=hl (j+1);simpa[amM,amD 1 j]using this) (by simpa using hsz) hF hp ?_ (adg i o ho hi) (by omega) h';intro j hj;rw[hset i (by omega)];split
      .next e=>subst e;exact⟨λ_=>⟨by omega,λx hx e=>hFi ⟨x,hx,e⟩⟩,λ_=>rfl⟩
      .next e=>rw[hL j hj];exact and_congr_left λ_=>by omega
     .obtain⟨y,hy,rfl⟩:=alW.1 hf;obtain⟨hy1,hy2⟩:=hF y hy;obtain⟨hys,_⟩:=aj7.1 hy1;have:=hS _ hy2;rcases hfl i o y.1 y.2 ho hy1 (by omega) (.inl hk)with hb|hb
      .exact(((hL y.1 hys).1 (hsub y.1 hb)).2 y hy rfl).elim
      .exact hb.2
end Go.Fw
namespace Go.Fw
open Go
variable {P:Program} {w0:World} {M:Nat->Prop} {T:Ext} {γ γ':Nat->Value} {st:St} {a:Act} {w w':World} {Θ:fU} {Γ:iT}
def Y0:Op->Bool
 |.store _ _ _=>false
 |.call {callee:=.builtin .append,.. }|.call {callee:=.builtin .copy,.. }|.call {callee:=.builtin .clear,.. }=>false
 |_=>true
def ab7(m:List Nat)(o:Oper):Bool:=match o.op,o.guard with
 |.call {callee:=.builtin .append,args,.. },none=>match args.toList with
  |.tmp t::_=>aH m t
  |_=>false
 |_,_=>false
def madeBy(m:List Nat)(o:Oper):List Nat:=match o.op,o.dst with
 |.buildSlice _ _ _,some d=>d::m
 |.call {callee:=.builtin .append,.. },some d=>d::m
 |_,_=>m
def NS:List Nat->List Oper->Nat
 |_,[]=>0
 |m,o::r=>match Y0 o.op||ab7 m o with|true=>NS (madeBy m o) r+1|false=>0
def NT:List Nat->List Oper->Nat
 |_,[]=>0
 |m,o::r=>match Y0 o.op||(ab7 m o||sS o.op)with|true=>NT (madeBy m o) r+1|false=>0
def aa5(m:List Nat)(o:Oper):List Nat:=match o.op,o.dst with
 |.call {callee:=.value (.func _),.. },some d=>d::m
 |_,_=>madeBy m o
def TY:List Nat->List Oper->Nat
 |_,[]=>0
 |m,o::r=>match Y0 o.op||(ab7 m o||sS o.op)with|true=>TY (aa5 m o) r+1|false=>0
def NU:Nat->List Oper->List (Nat×Nat)
 |_,[]=>[]
 |i,o::r=>match o.op with
  |.call {callee:=.builtin .append,args,.. }=>match args.toList with
   |.tmp t::_=>(i,t*64+1)::NU (i+1) r
   |_=>NU (i+1) r
  |_=>NU (i+1) r
def adh(R:Reg):Bool:=R.A.all λx=>match idxOf R.D (x.2 / 64) 0 with
 |some j=>(R.ms.getD x.1 0).testBit j
 |none=>false
theorem Y3{e q:Nat}:∀(A:List (Nat×Nat)),BB A e q=true->(e,q)∈A
 |[],h=>by cases h
 |(e',q')::r,h=>by
  rw[BB]at h;split at h
  .next hb=>rw[aj0]at hb;rw[aj3 hb.1,aj3 hb.2];exact akh
  .exact akg _ (Y3 r h)
theorem aav{R:Reg}(h:adh R=true)(e q:Nat)(hm:BB R.A e q=true):∃j,idxOf R.D (q / 64) 0=some j/\(R.ms.getD e 0).testBit j=true:=by
 have:=akk.1 h _ (Y3 _ hm);split at this
 .next j hj=>exact⟨j,hj,this⟩
 .cases this
def CS:Nat->List Nat->Bool
 |_,[]=>true
 |i,m::r=>Nat.beq (m+1) (2 ^ i)&&CS (i+1) r
def adi(t0:Nat)(ms:List Nat):List Nat:=(List.range t0).filter λj=>!((ms.drop t0).all λm=>m.testBit j)
def Ua(ops:List Oper)(j i:Nat):Bool:=match ops[j]?,ops[i]? with
 |some f,some o=>passes f o
 |_,_=>false
def lateRow(ops:List Oper)(S:List Nat)(m i:Nat):Bool:=(List.range i).all λj=>m.testBit j||(aH S j&&Ua ops j i)
def Y4(ops:List Oper)(t0:Nat)(ms:List Nat)(S:List Nat):Bool:=
 (List.range ops.length).all λi=>match Nat.ble t0 i with
   |true=>Nat.blt (ms.getD i 0) (2 ^ i)&&lateRow ops S (ms.getD i 0) i
   |false=>match aH S i with
    |true=>S.all λj=>Nat.ble i j||((ms.getD i 0).testBit j||Ua ops j i)
    |false=>true
def I5(ops:List Oper)(t0:Nat)(ms:List Nat):Bool:=match CS t0 (ms.drop t0)with
 |true=>true
 |false=>Y4 ops t0 ms (adi t0 ms)
def front(l:List Oper):Nat:=match I5 l (NS [] l) (masks l [])with
 |true=>NS [] l
 |false=>match I5 l (NT [] l) (masks l [])with|true=>NT [] l|false=>TY [] l
def Y5(l:List Oper):Bool:=l.all λo=>match o.guard with
 |some (g,_)=>match l[g]? with
  |some og=>og.dst.isSome
  |none=>false
 |none=>true
def aa6(n:Nat)(l:List Oper):Bool:=l.all λo=>match o.dst with|some d=>Nat.blt d n|none=>true
def Ub(own:Nat->Bool):List Oper->List Nat
 |[]=>[]
 |o::r=>match YB o.op,o.dst with
  |true,some d=>match own d with|true=>Ub own r|false=>d::Ub own r
  |_,_=>Ub own r
def VL(own:Nat->Bool)(l:List Oper)(s:St):St:=
 match Ub own l with
 |[]=>s
 |z=>s.freeze λo=>aH z (o / 64)&&!(Nat.beq (o%64) 0)
def O9(d:Nat):List (Nat×Operand)->Bool
 |[]=>false
 |(_,.tmp t)::r=>Nat.beq t d||O9 d r
 |_::r=>O9 d r
def agX(l:List Oper)(d:Nat):Bool:=l.any λb=>match b.op,b.dst with
 |.build _ ps,some e=>O9 d ps.toList&&l.any λc=>match c.op with|.buildSlice _ _ qs=>O9 e qs.toList|_=>false
 |_,_=>false
def J8(l0:List Oper):List Oper->List Nat
 |[]=>[]
 |o::r=>match O8 o.op,o.dst with
  |true,some d=>match agX l0 d with|true=>d::J8 l0 r|false=>J8 l0 r
  |_,_=>J8 l0 r
def afv(own:Nat->Bool)(l:List Oper):List Nat:=(Ub own l++J8 l l).filter λd=>!((NU 0 l).any λx=>Nat.beq x.2 (d*64+1))
def mQ(n:Nat)(own:Nat->Bool)(Γ:iT)(U:List Nat)(ops:List Oper):Reg:=⟨dstsOf n 0 (ops.take (front ops)),U,masks ops [],IX Γ 0 (ops.take (front ops)),NU 0 (ops.take (front ops)),n,afv own (ops.take (front ops))⟩
def Gs(Θ:fU)(Γ:iT)(own:Nat->Bool)(U:List Nat)(ops:List Oper)(K:St->Prop)(st:St):Prop:=
 match nodup (mQ st.n own Γ U ops).D&&(aa6 st.n (ops.take (front ops))&&(I5 ops (front ops) (mQ st.n own Γ U ops).ms&&((mQ st.n own Γ U ops).E.all (yG (mQ st.n own Γ U ops).ms (mQ st.n own Γ U ops).E)&&(adh (mQ st.n own Γ U ops)&&Y5 ops))))with
 |true=>pF Θ Γ (mQ st.n own Γ U ops) (bC (mQ st.n own Γ U ops).D st) (λpath=>
   runs Θ Γ own ops K (ops.drop (front ops)) (VL own (ops.take (front ops)) (after (bC (mQ st.n own Γ U ops).D st) path λ_=>true))) 0 (ops.take (front ops)) []
 |false=>False
theorem W9:∀(m:List Nat)(l:List Oper),NS m l<=l.length
 |_,[]=>aj8 _
 |m,o::r=>by
  rw[NS];split
  .have:=W9 (madeBy m o) r;rw[aj6];omega
  .exact ake _
theorem Xa:∀(m:List Nat)(l:List Oper),NT m l<=l.length
 |_,[]=>aj8 _
 |m,o::r=>by
  rw[NT];split
  .have:=Xa (madeBy m o) r;rw[aj6];omega
  .exact ake _
theorem Xb:∀(m:List Nat)(l:List Oper),TY m l<=l.length
 |_,[]=>aj8 _
 |m,o::r=>by
  rw[TY];split
  .have:=Xb (aa5 m o) r;rw[aj6];omega
  .exact ake _
theorem aef(l:List Oper):front l<=l.length:=by
 unfold front;split
 .exact W9 [] l
 .split
  .exact Xa [] l
  .exact Xb [] l
theorem XF{l:List Oper}(h:Y5 l=true){i:Nat}{o:Oper}{g:Nat}{b:Bool}(ho:l[i]? =some o)(hg:o.guard=some (g,b)):∃og d,l[g]? =some og/\og.dst=some d:=by
 have:=akk.1 h o (akJ ho);rw[hg]at this;simp only at this;split at this
 .next og hog=>obtain⟨d,hd⟩:=Option.isSome_iff_exists.1 this;exact⟨og,d,hog,hd⟩
 .cases this
theorem Y6{n:Nat}{l:List Oper}(h:aa6 n l=true){i:Nat}{o:Oper}{d:Nat}(ho:l[i]? =some o)(hd:o.dst=some d):d<n:=by have:=akk.1 h o (akJ ho);rw[hd]at this;simpa[amq]using this
theorem Qy:∀{l:List Nat}{k:Nat},CS k l=true->∀i m,l[i]? =some m->m+1=2 ^ (k+i)
 |[],_,_,i,m,hm=>by simp at hm
 |x::r,k,h,0,m,hm=>by
  rw[CS,aj0]at h;simp at hm;subst hm;exact aj3 h.1
 |x::r,k,h,i+1,m,hm=>by rw[CS,aj0]at h;have:=Qy h.2 i m (by simpa using hm);rw[this];congr 1;omega
theorem NV:∀(l:List Oper)(acc:List Nat),(masks l acc).length=acc.length+l.length
 |[],acc=>by simp[masks]
 |o::r,acc=>by rw[masks,NV r];simp;omega
theorem Uc:∀{l:List Nat},nodup l=true->∀(i j:Nat)(x:Nat),l[i]? =some x->l[j]? =some x->i=j
 |[],_,i,j,x,hi,_=>by simp at hi
 |y::r,h,i,j,x,hi,hj=>by
  rw[nodup,aj0]at h;have hno:y ∉ r:=λhm=>by have:=oM.2 hm;rw[this]at h;simp at h
  match i,j with
  |0,0=>rfl
  |0,j+1=>simp at hi hj;exact(hno (hi▸akJ hj)).elim
  |i+1,0=>simp at hi hj;exact(hno (hj▸akJ hi)).elim
  |i+1,j+1=>simp at hi hj;rw[Uc h.2 i j x hi hj]
theorem D8{n:Nat}:∀{l:List Oper}{k:Nat},(∀(i:Nat)(o:Oper),l[i]? =some o->∃d,oH n (k+i) o=some d)->∀(i:Nat)(o:Oper)(d:Nat),l[i]? =some o->oH n (k+i) o=some d->(dstsOf n k l)[i]? =some d
 |[],_,_,i,o,d,hi,_=>by simp at hi
 |x::r,k,h,i,o,d,hi,hd=>by
  obtain⟨e,he⟩:=h 0 x rfl;rw[alm]at he;rw[dstsOf,he]
  match i with
  |0=>simp at hi;subst hi;rw[alm,he]at hd;cases hd;rfl
  |i+1=>simp;exact D8 (k:=k+1) (λj o' hj=>by rw[show k+1+j=k+(j+1) by omega];exact h (j+1) o' (by simpa using hj)) i o d (by simpa using hi) (by rw[show k+1+i=k+(i+1) by omega];exact hd)
theorem Y7{ops:List Oper}{S:List Nat}{m i:Nat}(h:lateRow ops S m i=true){j:Nat}(hj:j<i){o f:Oper}(ho:ops[i]? =some o)(hf:ops[j]? =some f):m.testBit j=true\/(aH S j=true/\passes f o=true):=by have:=akk.1 h j (alh.2 hj);rw[ald,aj0,Ua,ho,hf]at this;exact this
theorem LJ{ops:List Oper}{t0:Nat}{ms S:List Nat}(h:Y4 ops t0 ms S=true){i:Nat}{o:Oper}(ho:ops[i]? =some o):
 (t0<=i->ms.getD i 0<2 ^ i)/\∀{j:Nat}{f:Oper},ops[j]? =some f->j<i->t0<=i\/(aH S i=true/\aH S j=true)->(ms.getD i 0).testBit j=true\/(aH S j=true/\passes f o=true):=by
 obtain⟨hi,_⟩:=akc.1 ho;have:=akk.1 h i (alh.2 hi);split at this
 .next hb=>rw[aj0]at this;exact⟨λ_=>by simpa[amq]using this.1,λhf hj _=>Y7 this.2 hj ho hf⟩
 .next hb=>
  have hlt:¬t0<=i:=λh'=>by rw[Nat.ble_eq_true_of_le h']at hb;cases hb
  refine⟨λh'=>(hlt h').elim,λ{j f} hf hj h'=>?_⟩;obtain⟨h1,h2⟩:=h'.resolve_left hlt;rw[h1]at this;have:=akk.1 this j (oM.1 h2);rw[ald,ald,Ua,ho,hf]at this;rcases this with h3|h3|h3
  .have:=ak3 h3;omega
  .exact .inl h3
  .exact .inr ⟨h2,h3⟩
theorem Ud(L:Nat->Bool):∀(n:Nat),((List.range n).filter λi=>!(L i)).length=zH L n
 |0=>rfl
 |n+1=>by
  rw[List.range_succ,List.filter_append,aj1,Ud L n,zH];cases h:L n
  .simp[h,amD]
  .simp[h]
theorem Y8(L:Nat->Bool){t0:Nat}(h:∀i,t0<=i->L i=false):∀(n:Nat),t0<=n->zH L n=zH L t0+(n-t0)
 |0,hn=>by
  have:t0=0:=by omega
  subst this;rfl
 |n+1,hn=>by
  rcases aks n t0 with h'|h'
  .have:t0=n+1:=by omega
   subst this;simp
  .rw[zH,h n h',Y8 L h n h'];simp only;omega
structure Pe(Θ:fU)(Γ:iT)(w0:World)(M:Nat->Prop)(T:Ext)(st:St)(R:Reg)(ops:Array Oper)(t0:Nat)(listed:Array Bool)(path:List bP)(γ:Nat->Value)(a:Act)(w:World):Prop where
 way:Way R ops t0 path
 size:listed.size=ops.size
 tail:∀i,t0<=i->listed.getD i false=false
 shut:∀i j,listed.getD i false=true->((masks ops.toList []).getD i 0).testBit j=true->listed.getD j false=true
 ok:∀j o x,ops[j]? =some o->path[j]? =some x->listed.getD j false=true->nT Θ Γ R (bC R.D st) path j o x
 rel:Rel w0 M T γ (after (bC R.D st) path λi=>listed.getD i false) a w
theorem adk{G:iC}(hE:nR P G Θ Γ w0 M){ops:Array Oper}{Q:Exit->Act->World->Prop}(hQ:∀c a w,¬Q (.panic c) a w)(hO:¬LetsOut Q){R:Reg}{t0:Nat}{K:List bP->Prop}(ht0:t0<=ops.size)(hms:R.ms=masks ops.toList [])
 (hRn:R.n=st.n) (hDn:∀i o d,ops[i]? =some o->i<t0->o.dst=some d->d<st.n) (hgd:∀i o g b,ops[i]? =some o->i<t0->o.guard=some (g,b)->∃og d,ops[g]? =some og/\og.dst=some d) (hcmp:∀e∈R.E,yG R.ms R.E e=true) (hEi:∀j o',ops[j]? =some o'->j<t0->rU Γ o'.op=true->j∈R.E)
 (hA:∀e q,BB R.A e q=true->∃j,idxOf R.D (q / 64) 0=some j/\(R.ms.getD e 0).testBit j=true)
 (J6:∀ext:List bP,ext.length<=t0->RD Θ Γ R (bC R.D st) (ops.toList.take t0) ext->(ext.length=t0->K ext)/\∀o,(ops.toList.take t0)[ext.length]? =some o->Enabled Θ Γ R (bC R.D st) ext ext.length o)
 {S:Nat->Prop} (hfl:∀i o j f,ops[i]? =some o->ops[j]? =some f->j<i->t0<=i\/(S i/\S j)->((masks ops.toList []).getD i 0).testBit j=true\/(S j/\passes f o=true)) (hS:∀j,S j->j<t0)
 (hlt:∀i o,ops[i]? =some o->(masks ops.toList []).getD i 0<2 ^ i)
 (hend:∀path γ' a' w',K path->path.length=t0->Rel w0 M T γ' (after (bC R.D st) path λ_=>true) a' w'->wpList P ops Q (ops.toList.drop t0) a' w'):
 ∀(fuel:Nat)(listed:Array Bool)(path:List bP)(γ:Nat->Value)(a:Act)(w:World),Pe Θ Γ w0 M T st R ops t0 listed path γ a w->
  zH (λi=>listed.getD i false) ops.size<=fuel->wpAny P .any ops Q fuel listed a w:=by
 have JL:(ops.toList.take t0).length=t0:=by simp;omega
 have hget:∀j o,(ops.toList.take t0)[j]? =some o↔j<t0/\ops[j]? =some o:=λj o=>by
  rcases aks j t0 with h|h
  .rw[alp h];simp[h]
  .rw[alj (by rw[JL];exact h)];constructor
   .intro h';cases h'
   .rintro⟨h',_⟩;omega
 have fin:∀(listed:Array Bool)(path:List bP)(γ:Nat->Value)(a:Act)(w:World),Pe Θ Γ w0 M T st R ops t0 listed path γ a w->
  (∀i,i<t0->listed.getD i false=true)->wpList P ops Q (ops.toList.drop t0) a w:=by
  intro listed path γ a w I hdone;have hR:=I.rel;have hK:K path:=by refine(J6 path (by rw[I.way.len];exact aj8 _) λi o x hi hx=>?_).1 I.way.len;obtain⟨h1,h2⟩:=(hget i o).1 hi;exact I.ok i o x h2 hx (hdone i h1)
  have hsame:after (bC R.D st) path (λi=>listed.getD i false)=after (bC R.D st) path λ_=>true:=by
   unfold after;have:∀(l:List bP)(j:Nat),j+l.length<=t0->pick l j (λi=>listed.getD i false)=pick l j λ_=>true:=by
    intro l
    induction l with
    |nil=>intros;rfl
    |cons y l ih=>intro j hj;rw[pick,pick];simp only[aj6]at hj;simp only[hdone j (by omega)];rw[ih (j+1) (by omega)]
   rw[this path 0 (by rw[I.way.len];omega)]
  rw[hsame]at hR;exact hend path γ a w hK I.way.len hR
 have step:∀(listed:Array Bool)(path:List bP)(γ:Nat->Value)(a:Act)(w:World),Pe Θ Γ w0 M T st R ops t0 listed path γ a w->∀(i:Nat)(o:Oper),ops[i]? =some o->i<t0->listed.getD i false=false->
  (∀j,((masks ops.toList []).getD i 0).testBit j=true->listed.getD j false=true)->∀(K':Act->World->Prop),
  (∀path' γ' a' w',Pe Θ Γ w0 M T st R ops t0 (listed.setIfInBounds i true) path' γ' a' w'->K' a' w')->wpOp P ops Q i K' a w:=by
  intro listed path γ a w I i o ho hit hil hsub K' hK';obtain⟨W,hsz,htl,hcl,hok,hR⟩:=I;have hen:Enabled Θ Γ R (bC R.D st) path i o:=by
   obtain⟨ext,g1,g2,g3⟩:=fill hE.toEnvB (R:=R) (base:=bC R.D st) (front:=ops.toList.take t0) (path:=path) (L:=λi=>listed.getD i false)
    (λext hc o' ho'=>(J6 ext (by obtain⟨hlt',_⟩:=akc.1 ho';rw[JL]at hlt';omega) hc).2 o' ho')
    (λj o' x ho' hx hL=>hok j o' x ((hget j o').1 ho').2 hx hL) (by rw[W.len,JL]) (λj k hL hk=>hcl j k hL (by rw[← hms];exact hk)) i (by rw[JL];omega)
   have:=(J6 ext (by omega) g2).2 o ((hget _ o).2 ⟨by omega,by rw[g1];exact ho⟩);rw[g1]at this;refine this.agree λj hj=>?_;rw[hms]at hj;have hji:j<i:=by
    rcases aks j i with h|h
    .exact h
    .rw[kT (hlt i o ho) h]at hj;cases hj
   exact g3 j hji (hsub j hj)
  have hset:∀j,(listed.setIfInBounds i true).getD j false=(if j=i then true else listed.getD j false):=by
   intro j;split
   .next e=>subst e;simp[Array.getD,show j<listed.size by omega]
   .next e=>exact getD_set_ne false (alH e)
  refine aec hE (L:=λi=>listed.getD i false) (L':=λj=>(listed.setIfInBounds i true).getD j false) W ht0 hit hRn hDn hgd hcmp hEi hA ho hen hok (λj k hL hk=>hcl j k hL (by rw[← hms];exact hk)) (λj hj=>hsub j (by rw[← hms];exact hj)) hil
   (by simp only[hset,if_true]) (λj hj=>by simp only[hset,if_neg hj]) hR ?_
  intro x γ' a' w' ⟨y,hy,hxy⟩ hx hR';refine hK' (path.set i x) γ' a' w' ⟨W.set hy hxy,by simpa using hsz,?_,?_,?_,hR'⟩
  .intro j hj;rw[hset,if_neg (by omega)];exact htl j hj
  .intro j k hj hk;rw[hset]at hj ⊢;split
   .rfl
   .split at hj
    .next e=>subst e;exact hsub k hk
    .exact hcl j k hj hk
  .intro j o' z ho' hz hL;obtain⟨aia,_⟩:=akc.1 hy;by_cases e:j=i
   .subst e;rw[ali aia]at hz;cases hz;rw[ho]at ho';cases ho';exact hx
   .rw[akZ (alH e)]at hz;rw[hset,if_neg e]at hL;refine(hok j o' z ho' hz hL).agree λk hk=>?_;have hLk:=hcl j k hL (by rw[← hms];exact hk);have hki:i≠k:=λe=>by subst e;rw[hil]at hLk;cases hLk
    rw[akZ hki]
 have pend:∀(F:List (Nat×Oper))(listed:Array Bool)(path:List bP)(γ:Nat->Value)(a:Act)(w:World),Pe Θ Γ w0 M T st R ops t0 listed path γ a w->
  (∀x∈F,ops[x.1]? =some x.2/\x.1<t0)->F.Pairwise (λx y=>x.1<y.1)->(∀i,i<t0->(listed.getD i false=true↔∀x∈F,x.1≠i))->
  Am P ops Q (Q .normal) (F.map (·.2)++ops.toList.drop t0) a w:=by
  intro F
  induction F with
  |nil=>
   intro listed path γ a w I _ _ hL;rw[List.map_nil,akP,Qx];exact fin listed path γ a w I λi hi=>(hL i hi).2 λx hx=>by cases hx
  |cons x F ih=>
   intro listed path γ a w I hF hp hL;obtain⟨hx1,hx2⟩:=hF x akh;have hpx:=(al4.1 hp).1;have hun:listed.getD x.1 false=false:=by
    cases hb:listed.getD x.1 false with
    |false=>rfl
    |true=>exact((hL x.1 hx2).1 hb x akh rfl).elim
   refine(wpOp_step hx1).1 (step listed path γ a w I x.1 x.2 hx1 hx2 hun (λj hj=>?_) _ λpath' γ' a' w' I'=>?_)
   .have hjx:j<x.1:=by
     rcases aks j x.1 with h|h
     .exact h
     .rw[kT (hlt x.1 x.2 hx1) h]at hj;cases hj
    refine(hL j (by omega)).2 λy hy=>?_;rcases akm.1 hy with rfl|hy
    .omega
    .have:=hpx y hy;omega
   .refine ih _ path' γ' a' w' I' (λy hy=>hF y (akg _ hy)) (al4.1 hp).2 λi hi=>?_;have hxs:x.1<listed.size:=by rw[I.size];exact(aj7.1 hx1).1
    by_cases e:i=x.1
    .subst e;refine⟨λ_ y hy=>by have:=hpx y hy;omega,λ_=>by simp[Array.getD,hxs]⟩
    .rw[getD_set_ne false (alH e),hL i hi];refine⟨λh y hy=>h y (akg _ hy),λh y hy=>?_⟩;rcases akm.1 hy with rfl|hy
     .exactλe'=>e e'.symm
     .exact h y hy
 have late:∀(fuel:Nat)(listed:Array Bool)(path:List bP)(γ:Nat->Value)(a:Act)(w:World),Pe Θ Γ w0 M T st R ops t0 listed path γ a w->zH (λi=>listed.getD i false) ops.size<=fuel->
  (∀i,i<t0->¬S i->listed.getD i false=true)->wpAny P .any ops Q fuel listed a w:=by
  intro fuel listed path γ a w I hf hd;have hcount:=Y8 (λi=>listed.getD i false) I.tail ops.size ht0;have hlen:=Ud (λi=>listed.getD i false) t0;have hmem:∀x,x∈((List.range t0).filter λi=>!(listed.getD i false)).map (λi=>(i,(ops[i]?).getD default))↔∃i,i<t0/\listed.getD i false=false/\(i,(ops[i]?).getD default)=x:=by intro x;simp only[alW,amH,alh,alu,amC]
  have agh:∀i,i<t0->ops[i]? =some ((ops[i]?).getD default):=λi hi=>by
   have:ops[i]? =some (ops[i]'(by omega)):=by simp
   rw[this];rfl
  have aeX:(((List.range t0).filter λi=>!(listed.getD i false)).map (λi=>(i,(ops[i]?).getD default))).Pairwise (λx y=>x.1<y.1):=by rw[List.pairwise_map];exact(List.pairwise_lt_range (n:=t0)).filter _
  refine aed hQ hO hfl hS hlt fuel (((List.range t0).filter λi=>!(listed.getD i false)).map (λi=>(i,(ops[i]?).getD default))) (ops.toList.drop t0) t0 listed a w (aj8 _) ht0 (λj=>by simp) I.size ?_ aeX ?_ I.shut ?_ ?_
  .intro x hx;obtain⟨i,h1,h2,rfl⟩:=(hmem x).1 hx;refine⟨agh i h1,alD λhno=>?_⟩;have:=hd i h1 hno;rw[h2]at this;cases this
  .intro i hi;refine⟨λh=>⟨?_,λx hx e=>?_⟩,λ⟨h1,h2⟩=>?_⟩
   .rcases aks i t0 with h'|h'
    .exact h'
    .rw[I.tail i h']at h;cases h
   .obtain⟨j,_,h2,rfl⟩:=(hmem x).1 hx;subst e;rw[h2]at h;cases h
   .cases hb:listed.getD i false with
    |true=>rfl
    |false=>exact(h2 _ ((hmem _).2 ⟨i,h1,hb,rfl⟩) rfl).elim
  .rw[akK,hlen];omega
  .refine pend _ listed path γ a w I (λx hx=>?_) aeX λi hi=>⟨λh x hx e=>?_,λh=>?_⟩
   .obtain⟨i,h1,_,rfl⟩:=(hmem x).1 hx;exact⟨agh i h1,h1⟩
   .obtain⟨j,_,h2,rfl⟩:=(hmem x).1 hx;subst e;rw[h2]at h;cases h
   .cases hb:listed.getD i false with
    |true=>rfl
    |false=>exact(h _ ((hmem _).2 ⟨i,hi,hb,rfl⟩) rfl).elim
 intro fuel
 induction fuel with
 |zero=>
  intro listed path γ a w I hf;have hall:∀i,i<ops.size->listed.getD i false=true:=YV (L:=λi=>listed.getD i false) ops.size (by omega);exact late 0 listed path γ a w I hf λi hi _=>hall i (by omega)
 |succ fuel ih=>
  intro listed path γ a w I hf;by_cases hdone:∀i,i<t0->¬S i->listed.getD i false=true
  .exact late (fuel+1) listed path γ a w I hf hdone
  .obtain⟨W,hsz,htl,hcl,hok,hR⟩:=id I;have hex:∃i,i<t0/\¬S i/\listed.getD i false=false:=by
    refine alD λhno=>hdone λi hi hn=>?_;cases hl:listed.getD i false with
    |true=>rfl
    |false=>exact(hno ⟨i,hi,hn,hl⟩).elim
   obtain⟨i1,hi1,hS1,hl1⟩:=hex;obtain⟨i0,hi0,hl0,hmin⟩:=least (p:=λi=>listed.getD i false=false) t0 ⟨i1,hi1,hl1⟩;have adl:i0∈Region.ready .any ops listed:=by
    have hisz:i0<ops.size:=by omega
    refine wM.2 ⟨ops[i0],by simp[hisz],by rw[zI (by omega)];exact hl0,λe he hb=>?_⟩;have hoi:ops.toList[i0]? =some ops[i0]:=by simp[hisz]
    have TW:=WU hoi he hb;have aee:e.on<i0:=by
     rcases aks e.on i0 with h|h
     .exact h
     .rw[kT (hlt i0 ops[i0] (by simp[hisz])) h]at TW;cases TW
    cases hl:listed.getD e.on false with
    |true=>rfl
    |false=>exact(hmin e.on aee hl).elim
   refine⟨λh=>(by rw[h]at adl;cases adl),λi hi=>?_⟩;obtain⟨o,ho,hn,hall⟩:=wM.1 hi;obtain⟨hisz,_⟩:=aj7.1 ho;have hil:listed.getD i false=false:=by rw[← zI (by omega)];exact hn
   have hsub:=NR hcl ho hi;have hit:i<t0:=by
    rcases aks i t0 with h|h
    .exact h
    .have ho1:ops[i1]? =some (ops[i1]'(by omega)):=by simp
     rcases hfl i o i1 _ ho ho1 (by omega) (.inl h)with hb|hb
     .have:=hsub i1 hb;rw[hl1]at this;cases this
     .exact(hS1 hb.1).elim
   refine step listed path γ a w I i o ho hit hil hsub _ λpath' γ' a' w' I'=>ih _ path' γ' a' w' I' ?_;have hset:∀j,(listed.setIfInBounds i true).getD j false=(if j=i then true else listed.getD j false):=by
    intro j;split
    .next e=>subst e;simp[Array.getD,show j<listed.size by omega]
    .next e=>exact getD_set_ne false (alH e)
   have:=aa3 (L:=λi=>listed.getD i false) (L':=λj=>(listed.setIfInBounds i true).getD j false) (i:=i) hil (by simp only[hset,if_true]) (λj hj=>by simp only[hset,if_neg hj]) ops.size hisz;omega
theorem Qz{ops:Array Oper}{t0:Nat}(h:CS t0 ((masks ops.toList []).drop t0)=true){i:Nat}{o:Oper}(ho:ops[i]? =some o)(hi:t0<=i):(masks ops.toList []).getD i 0+1=2 ^ i:=by
 obtain⟨hisz,_⟩:=aj7.1 ho;have hml:(masks ops.toList []).length=ops.size:=by rw[NV];simp
 have hg:((masks ops.toList []).drop t0)[i-t0]? =some ((masks ops.toList []).getD i 0):=by rw[akF,show t0+(i-t0)=i by omega,aj9,akd (by omega)];rfl
 have:=Qy h _ _ hg;rw[this];congr 1;omega
theorem acU{G:iC}(hE:nR P G Θ Γ w0 M)(hm:P.follows .mixedOrders=true){own:Nat->Bool}{U:List Nat}{id:Nat}{ops:Array Oper}{K:St->Prop}{Q:Exit->Act->World->Prop}(h:Rel w0 M T γ st a w)
 (hr:Gs Θ Γ own U ops.toList K st) (hn:∀s γ' a' w',K s->Rel w0 M T γ' s a' w'->Q .normal a' w'):(Code.region id ops true).wp P Q a w:=by
 unfold Gs at hr;split at hr
 case h_2=>exact hr.elim
 next hb=>
 rw[aj0,aj0,aj0,aj0]at hb;obtain⟨hnd,hlt,htl,hcmp,X4⟩:=hb;rw[aj0]at X4;obtain⟨X4,afw⟩:=X4;have ht0:front ops.toList<=ops.size:=by simpa using aef ops.toList
 have hfl:(ops.toList.take (front ops.toList)).length=front ops.toList:=by simp;omega
 have J6:=λ(ext:List bP)(hle:ext.length<=front ops.toList)(hc:RD Θ Γ (mQ st.n own Γ U ops.toList) (bC (mQ st.n own Γ U ops.toList).D st) (ops.toList.take (front ops.toList)) ext)=>
  Qo (ops.toList.take (front ops.toList)) [] [] ext rfl (by rw[hfl];exact hle) hr (by simpa using hc)
 simp only[akP,akn,akr,hfl]at J6;have hall:∃ext:List bP,ext.length=front ops.toList/\RD Θ Γ (mQ st.n own Γ U ops.toList) (bC (mQ st.n own Γ U ops.toList).D st) (ops.toList.take (front ops.toList)) ext:=by
  obtain⟨ext,g1,g2,_⟩:=fill hE.toEnvB (R:=mQ st.n own Γ U ops.toList) (base:=bC (mQ st.n own Γ U ops.toList).D st) (front:=ops.toList.take (front ops.toList)) (path:=List.replicate (front ops.toList) (skipped 0)) (L:=λ_=>false)
   (λext hc o' ho'=>(J6 ext (by obtain⟨hlt',_⟩:=akc.1 ho';rw[hfl]at hlt';omega) hc).2 o' ho') (λ_ _ _ _ _ h=>by cases h) (by simp[hfl]) (λ_ _ h=>by cases h) (front ops.toList) (by rw[hfl];exact aj8 _)
  exact⟨ext,g1,g2⟩
 obtain⟨agi,hl0,hc0⟩:=hall;have adn:∀i,i<front ops.toList->∃o d,ops[i]? =some o/\(ops.toList.take (front ops.toList))[i]? =some o/\oH st.n i o=some d/\(mQ st.n own Γ U ops.toList).ms.getD i 0<2 ^ i:=by
  intro i hi;have ho:ops[i]? =some (ops[i]'(by omega)):=by simp
  have ho2:(ops.toList.take (front ops.toList))[i]? =some (ops[i]'(by omega)):=by rw[alp hi];simp
  have hx:agi[i]? =some (agi[i]'(by omega)):=by simp
  obtain⟨h1,h2,_⟩:=hc0 i _ _ ho2 hx;exact⟨_,_,ho,ho2,h1,h2⟩
 have hdst:∀(i:Nat)(o:Oper),(ops.toList.take (front ops.toList))[i]? =some o->∃d,oH st.n (0+i) o=some d:=by intro i o ho;rw[akr];obtain⟨hi,_⟩:=akc.1 ho;obtain⟨o',d,_,h2,h3,_⟩:=adn i (by omega);rw[ho]at h2;cases h2;exact⟨d,h3⟩
 have hbound:∀i o,ops[i]? =some o->front ops.toList<=i->(masks ops.toList []).getD i 0<2 ^ i:=by
  intro i o ho hi;unfold I5 at htl;split at htl
  .next hb=>have:=Qz (show CS _ ((masks ops.toList []).drop _)=true from hb) ho hi;omega
  .exact(LJ htl (by simpa using ho)).1 hi
 have agY:∃S:Nat->Prop,(∀i o j f,ops[i]? =some o->ops[j]? =some f->j<i->front ops.toList<=i\/(S i/\S j)->((masks ops.toList []).getD i 0).testBit j=true\/(S j/\passes f o=true))/\∀j,S j->j<front ops.toList:=by
  unfold I5 at htl;split at htl
  .next hb=>
   refine⟨λ_=>False,λi o j f ho _ hj hi=>.inl ?_,λ_ h=>h.elim⟩;rcases hi with hi|hi
   .have h1:=Qz (show CS _ ((masks ops.toList []).drop _)=true from hb) ho hi;have h2:(masks ops.toList []).getD i 0=2 ^ i-1:=by omega
    rw[h2,Nat.testBit_two_pow_sub_one];simpa using hj
   .exact hi.1.elim
  .refine⟨λj=>aH (adi (front ops.toList) (mQ st.n own Γ U ops.toList).ms) j=true,λi o j f ho hf hj hi=>?_,λj hj=>?_⟩
   .exact(LJ htl (by simpa using ho)).2 (by simpa using hf) hj hi
   .have:=oM.1 hj;exact alh.1 (amH.1 this).1
 obtain⟨S,agj,hS⟩:=agY
 let ab8:List bP:=(ops.toList.take (front ops.toList)).mapIdx λi o=>skipped ((oH st.n i o).getD 0)
 have hp0:∀(i:Nat)(x:bP),ab8[i]? =some x->∃o,(ops.toList.take (front ops.toList))[i]? =some o/\oH st.n (0+i) o=some x.d:=by
  intro i x hx;have hx:((ops.toList.take (front ops.toList)).mapIdx λi o=>skipped ((oH st.n i o).getD 0))[i]? =some x:=hx;rw[List.getElem?_mapIdx]at hx;cases ho:(ops.toList.take (front ops.toList))[i]? with
  |none=>rw[ho]at hx;cases hx
  |some o=>rw[ho]at hx;obtain⟨d,hd⟩:=hdst i o ho;cases hx;rw[akr]at hd ⊢;exact⟨o,rfl,by simp[skipped,hd]⟩
 have W0:Way (mQ st.n own Γ U ops.toList) ops (front ops.toList) ab8:=by
  refine⟨by show(List.mapIdx _ _).length=_;rw[List.length_mapIdx,hfl],λi o x ho hx=>?_,λx hx=>?_,λi j x y hx hy hxy=>?_,λi x hx=>?_⟩
  .obtain⟨o',h1,h2⟩:=hp0 i x hx;obtain⟨hi,_⟩:=akc.1 h1;rw[alp (by omega)]at h1;have:ops[i]? =some o':=by simpa using h1
   rw[ho]at this;cases this;rw[akr]at h2;exact h2
  .obtain⟨i,hi⟩:=ama hx;obtain⟨o',h1,h2⟩:=hp0 i x hi;exact oM.2 (TU _ 0 i h1 h2)
  .obtain⟨o1,h1,h2⟩:=hp0 i x hx;obtain⟨o2,h3,h4⟩:=hp0 j y hy;have g1:=D8 hdst i o1 x.d h1 h2;have g2:=D8 hdst j o2 y.d h3 h4;rw[← hxy]at g2;exact Uc hnd i j x.d g1 g2
  .obtain⟨o1,h1,h2⟩:=hp0 i x hx;have:=WY _ 0 i x.d hnd (D8 hdst i o1 x.d h1 h2);rw[akr]at this;exact this
 refine Code.wp_mono (Q:=λe a' w'=>match e with|.normal=>∃s γ',K s/\Rel w0 M T γ' s a' w'|_=>False) (λe a' w' he=>?_) ?_
 .cases e with
  |normal=>obtain⟨s,γ',h1,h2⟩:=he;exact hn s γ' a' w' h1 h2
  |_=>exact he.elim
 refine wp_region_any hm ?_;refine adk (w0:=w0) (M:=M) (T:=T) hE (λ_ _ _ h=>h) (λ⟨_,_,h⟩=>h) (R:=mQ st.n own Γ U ops.toList) (t0:=front ops.toList) ht0 rfl rfl ?_ (λi o g b ho _ hg=>by
  obtain⟨og,d,h1,h2⟩:=XF afw (i:=i) (by simpa using ho) hg;exact⟨og,d,by simpa using h1,h2⟩) (λe he=>akk.1 hcmp e he) ?_ (aav X4) J6 agj hS ?_ ?_ ops.size _ ab8 γ _ _
  ⟨W0,by simp,?_,?_,?_,?_⟩ ?_
 .intro i o d ho hi hd;exact Y6 hlt (i:=i) (by rw[alp hi];simpa using ho) hd
 .intro j o' ho' hj he;have:=TV (Γ:=Γ) (ops.toList.take (front ops.toList)) 0 j o' (by rw[alp hj];simpa using ho') he;rw[akr]at this;exact this
 .intro i o ho;rcases aks i (front ops.toList)with hi|hi
  .obtain⟨_,_,_,_,_,h⟩:=adn i hi;exact h
  .exact hbound i o ho hi
 .intro path γ' a' w' hK _ hR;have agZ:Rel w0 M T γ' (VL own (ops.toList.take (front ops.toList)) (after (bC (mQ st.n own Γ U ops.toList).D st) path λ_=>true)) a' w':=by
   unfold VL;split
   .exact hR
   .exact hR.freeze _
  exact DT hE (λs γ' a' w' h1 h2=>⟨s,γ',h1,h2⟩) _ _ _ _ _ agZ hK
 .intro i _;simp[Array.getD]
 .intro i j hi;exfalso;simp[Array.getD]at hi
 .intro j o x _ _ hi;exfalso;simp[Array.getD]at hi
 .have:=(h.drew (w.drawn+1))|>λh=>ad9 h (mQ st.n own Γ U ops.toList).D;rw[ab1 (λi=>by simp[Array.getD])];exact this
 .have:∀n,zH (λi=>(Array.replicate ops.size false).getD i false) n<=n:=by
   intro n
   induction n with
   |zero=>exact aj8 _
   |succ n ih=>rw[zH];split<;>omega
  exact this _
end Go.Fw
