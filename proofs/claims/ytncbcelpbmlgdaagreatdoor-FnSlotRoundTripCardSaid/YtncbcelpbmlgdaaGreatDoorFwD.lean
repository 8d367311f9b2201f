import Derived.Test.YtncbcelpbmlgdaaGreatDoorFwB
namespace Go.Fw
open Go
variable {P:Program} {w0:World} {M:Nat->Prop} {T:Ext} {γ γ':Nat->Value} {st:St} {a:Act} {w w':World} {Θ:jm} {Γ:kM}
structure dN where
 d:Nat
 v:AV
 u:List (Nat×ay)
 δ:List (Nat×ay)
 k:List Nat
def BK(acc:List Nat):List Edge->Nat
 |[]=>0
 |e::r=>match Region.binds .any e with
  |true=>(2 ^ e.on|||acc.getD e.on 0)|||BK acc r
  |false=>BK acc r
def masks:List Oper->List Nat->List Nat
 |[],acc=>acc
 |o::r,acc=>masks r (acc++[BK acc o.after.toList])
def pick:List dN->Nat->(Nat->Bool)->List dN
 |[],_,_=>[]
 |x::r,j,m=>match m j with|true=>x::pick r (j+1) m|false=>pick r (j+1) m
def yh:List dN->Nat->AV->AV
 |[],_,b=>b
 |x::r,t,b=>match Nat.beq t x.d with|true=>x.v|false=>yh r t b
def lookO:List dN->Nat->Option ay->Option ay
 |[],_,b=>b
 |x::r,o,b=>match look x.δ o with|some y=>some y|none=>lookO r o b
def nI:List dN->Nat->Option ay
 |[],_=>none
 |x::r,o=>match nI r o with|some y=>some y|none=>look x.u o
def lD(base:St)(l:List dN):St:=
 {n:=base.n,tmps:=λt=>yh l t (base.tmps t),ah:=λo=>match nI l o with|some y=>some y|none=>lookO l o (base.ah o)}
def ng:List dN->List Nat
 |[]=>[]
 |x::r=>x.k++ng r
def sH(l:List Nat)(st:St):St:=match l with|[]=>st|l=>st.kill (aK l)
def after(base:St)(path:List dN)(m:Nat->Bool):St:=sH (ng (pick path 0 m)) (lD base (pick path 0 m))
def Cell.touch(S:Nat->Bool):Cell->Bool
 |.ref o=>S o
 |_=>false
def SV.touch(S:Nat->Bool):SV->Bool
 |.one c=>c.touch S
 |.agg cs=>cs.any (Cell.touch S)
def AV.touch(S:Nat->Bool):AV->Bool
 |.undef=>false
 |.sv v=>v.touch S
 |.mD vs=>vs.any (SV.touch S)
 |.bK o _=>S o
 |.nR o _ _=>S o
 |.win o _ _=>S o
 |.pW _ _ _ _=>false
 |.fA cs _=>cs.any (Cell.touch S)
 |.fn _ caps=>caps.any λcs=>cs.any (Cell.touch S)
def ay.touch(S:Nat->Bool):ay->Bool
 |.var cs=>cs.any (Cell.touch S)
 |.arr _ _ _ _=>false
def St.abm(st:St)(L:List Nat):St:=match L with
 |[]=>st
 |L=>{n:=st.n,tmps:=λt=>match (st.tmps t).touch (aK L)with|true=>.undef|false=>st.tmps t,
      ah:=λo=>match aK L o with|true=>none|false=>match st.ah o with|some x=>(match x.touch (aK L)with|true=>none|false=>some x)|none=>none}
def ady(ms:List Nat)(i:Nat):List (Nat×Nat)->List Nat
 |[]=>[]
 |(e,q)::r=>match Nat.beq e i||((ms.getD i 0).testBit e||(ms.getD e 0).testBit i)with|true=>ady ms i r|false=>q::ady ms i r
def Hf:List (Nat×Nat)->Nat->Nat->Bool
 |[],_,_=>false
 |(e,q)::r,i,o=>match Nat.beq e i&&Nat.beq q o with|true=>true|false=>Hf r i o
def XG:Op->Bool
 |.call {callee:=.builtin .append,.. }=>true
 |_=>false
def yV:Op->Bool
 |.store _ _ _=>true
 |_=>false
def rU(n i:Nat)(o:Oper):Option Nat:=match o.dst with
 |some d=>some d
 |none=>match yV o.op with|true=>some (n+i)|false=>none
def dstsOf(n:Nat):Nat->List Oper->List Nat
 |_,[]=>[]
 |i,o::r=>match rU n i o with|some d=>d::dstsOf n (i+1) r|none=>dstsOf n (i+1) r
def nodup:List Nat->Bool
 |[]=>true
 |x::r=>!(aK r x)&&nodup r
def bJ(D:List Nat)(st:St):St:=st.kill λo=>aK D (o / 64)
def CB(d:Nat)(δ:List (Nat×ay)):Bool:=δ.all λx=>Nat.beq (x.1 / 64) d
def St.hide(st:St)(U:List Nat):St:={st with ah:=λo=>match aK U o with|true=>none|false=>st.ah o}
def yj(Γ:kM)(o:Op):Bool:=match o with
 |.call {callee:=.value (.func f),.. }=>match Γ f with|some (.eff _ _)=>true|_=>false
 |.store _ _ _=>true
 |_=>false
def PE(Γ:kM):Nat->List Oper->List Nat
 |_,[]=>[]
 |i,o::r=>match yj Γ o.op with|true=>i::PE Γ (i+1) r|false=>PE Γ (i+1) r
def DL(ms:List Nat)(E:List Nat)(i:Nat):Bool:=E.all λe=>Nat.beq e i||((ms.getD i 0).testBit e||(ms.getD e 0).testBit i)
def rH(st:St)(m:Mode)(x:AV):Option (Arg×Option Nat):=
 match m with
 |.val=>match oO st [x]with
  |some [a]=>some (a,none)
  |_=>none
 |m=>o9 st m x
def wU(st:St):List Mode->List AV->Option (List Arg×List (Option Nat))
 |_,[]=>some ([],[])
 |ms,x::xs=>match rH st (ms.headD .val) x,wU st ms.tail xs with
  |some (a,o),some (as,os)=>some (a::as,o::os)
  |_,_=>none
def Arg.ap5:Arg->Bool
 |.own _ _ _=>false
 |_=>true
def PG(Γ:kM)(st:St):Op->Option (Prop×Ja×(List (Option Nat)×Bool))
 |.call {callee:=.value (.func f),args,.. }=>match Γ f with
  |some (.eff ms con)=>match wU st ms (handed st args.toList [])with
   |some (vs,os)=>match Fv (Dz ms (handed st args.toList []))||vs.all Arg.ap5 with
    |true=>match con vs with
     |some (p,ρ)=>some (p,ρ,(os,!(Fv (Dz ms (handed st args.toList [])))))
     |none=>none
    |false=>none
   |none=>none
  |_=>none
 |_=>none
def KQ(Θ:jm)(st:St):Op->Option (List (Nat×ay))
 |.store t p x=>match st.ev x,Θ t,st.ev p with
  |.sv v,some ti,.bK o off=>match Nat.beq v.cells.length ti.cells.len,st.ah o with
   |true,some (.var cs)=>match Nat.ble (off+v.cells.length) cs.length with
    |true=>some [(o,.var (splice cs off v.cells))]
    |false=>none
   |_,_=>none
  |_,_,_=>none
 |_=>none
def akP(D U:List Nat)(υ:List (Nat×ay)):Bool:=υ.all λy=>aK U y.1&&!(aK D (y.1 / 64))
def PI:List (Option Nat)->List Eff->Bool
 |[],_=>true
 |none::os,aC=>PI os aC.tail
 |some _::os,aC=>match aC.head? with|some (.var _)=>PI os aC.tail|_=>false
def FP(D U:List Nat)(d:Nat)(st:St)(os:List (Option Nat)×Bool)(out:Out)(aC:List Eff):Option (AV×List (Nat×ay)×List (Nat×ay)):=
 match yR os.1&&(Iu aC (out.take (d*64+1)).2&&(PI os.1 aC&&(CB d (out.take (d*64+1)).2&&(!os.2||(out.made&&KH aC))))),nH st os.1 aC with
 |true,some υ=>match υ.all λy=>aK U y.1&&!(aK D (y.1 / 64))with
  |true=>some ((out.take (d*64+1)).1,υ,(out.take (d*64+1)).2)
  |false=>none
 |_,_=>none
structure Reg where
 D:List Nat
 U:List Nat
 ms:List Nat
 E:List Nat
 A:List (Nat×Nat)
 n:Nat
 F:List Nat
def oz(F:List Nat)(x:dN):dN:=match aK F x.d,x.v,x.u,x.δ with
 |true,.sv (.one (.ref q)),[],[(q',.arr e r l fr)]=>match Nat.beq q q' with
  |true=>⟨x.d,.sv (.one (.sl e r l fr)),[],[],x.k⟩
  |false=>x
 |_,_,_,_=>x
theorem pJ(F:List Nat)(x:dN):(oz F x).d=x.d/\(oz F x).u=x.u/\(oz F x).k=x.k/\∀y∈(oz F x).δ,y∈x.δ:=by
 unfold oz;split
 .next q q' e r l fr _ hv hu hδ=>
  split
  .exact⟨rfl,hu.symm,rfl,λy hy=>arZ⟩
  .exact⟨rfl,rfl,rfl,λy hy=>hy⟩
 .exact⟨rfl,rfl,rfl,λy hy=>hy⟩
def idxOf:List Nat->Nat->Nat->Option Nat
 |[],_,_=>none
 |x::r,t,j=>match Nat.beq t x with|true=>some j|false=>idxOf r t (j+1)
def ZI(R:Reg)(i t:Nat):Bool:=match idxOf R.D t 0 with
 |some j=>!(Nat.beq j i||((R.ms.getD i 0).testBit j||(R.ms.getD j 0).testBit i))
 |none=>false
def St.veil(st:St)(R:Reg)(i:Nat):St:={st with tmps:=λt=>match ZI R i t with|true=>.undef|false=>st.tmps t}
def viewAt(R:Reg)(base:St)(acc:List dN)(i:Nat):St:=
 ((match DL R.ms R.E i with
 |true=>after base acc (R.ms.getD i 0).testBit
 |false=>(after base acc (R.ms.getD i 0).testBit).hide R.U).veil R i).abm (ady R.ms i R.A)
def J4(Θ:jm)(Γ:kM)(R:Reg)(base:St)(i:Nat)(o:Oper)(d:Nat)(acc:List dN)(K:List dN->Prop):Prop:=
 match yj Γ o.op with
 |true=>match yV o.op with
  |true=>match KQ Θ (viewAt R base acc i) o.op with
   |some υ=>match akP R.D R.U υ with
    |true=>K (acc++[⟨d,.mD [],υ,[],[]⟩])
    |false=>False
   |none=>False
  |false=>match PG Γ (viewAt R base acc i) o.op with
   |some (p,ρ,os)=>p/\∀t,ρ.R t->match FP R.D R.U d (viewAt R base acc i) os (ρ.out t) (ρ.aC t)with
    |some (v,υ,δ)=>K (acc++[⟨d,v,υ,δ,[]⟩])
    |none=>False
   |none=>False
 |false=>match XG o.op with
  |true=>match DF Θ (viewAt R base acc i) o.op with
   |some (p,q,x)=>match aK R.D (q / 64)&&(!(Nat.beq (q / 64) d)&&Hf R.A i q)with
    |true=>p/\K (acc++[oz R.F ⟨d,.sv (.one (.ref (d*64+1))),[],[(d*64+1,x)],[q]⟩])
    |false=>False
   |none=>False
  |false=>match calm Θ Γ d (viewAt R base acc i) o.op with
   |some (p,v,δ)=>match CB d δ,quiet (viewAt R base acc i) o.op with
    |true,true=>K (acc++[oz R.F ⟨d,v,[],δ,[]⟩])
    |true,false=>p/\K (acc++[oz R.F ⟨d,v,[],δ,[]⟩])
    |false,_=>False
   |none=>False
def fix(g:Nat)(b:Bool)(acc:List dN):List dN:=
 match acc[g]? with
 |some x=>acc.set g {x with v:=.sv (.one (.bool b))}
 |none=>acc
def skipped(d:Nat):dN:=⟨d,.mD [],[],[],[]⟩
def tY(Θ:jm)(Γ:kM)(R:Reg)(base:St)(K:List dN->Prop):Nat->List Oper->List dN->Prop
 |_,[],acc=>K acc
 |i,o::r,acc=>match rU R.n i o,Nat.blt (R.ms.getD i 0) (2 ^ i)with
  |some d,true=>match o.guard with
   |none=>J4 Θ Γ R base i o d acc (tY Θ Γ R base K (i+1) r)
   |some (g,b)=>match (R.ms.getD i 0).testBit g,acc[g]? with
    |true,some x=>match x.v with
     |.sv (.one (.bool c))=>cond c
      (match b with
        |true=>J4 Θ Γ R base i o d (fix g true acc) (tY Θ Γ R base K (i+1) r)
        |false=>tY Θ Γ R base K (i+1) r (fix g true acc++[skipped d]))
      (match b with
        |false=>J4 Θ Γ R base i o d (fix g false acc) (tY Θ Γ R base K (i+1) r)
        |true=>tY Θ Γ R base K (i+1) r (fix g false acc++[skipped d]))
     |.mD _=>tY Θ Γ R base K (i+1) r (acc++[skipped d])
     |_=>False
    |_,_=>False
  |_,_=>False
def Wanted(R:Reg)(path:List dN)(i:Nat)(o:Oper):Prop:=
 o.guard=none\/∃g b y,o.guard=some (g,b)/\(R.ms.getD i 0).testBit g=true/\path[g]? =some y/\y.v=.sv (.one (.bool b))
def ZJ(R:Reg)(path:List dN)(i:Nat)(o:Oper):Prop:=
 ∃g b y,o.guard=some (g,b)/\(R.ms.getD i 0).testBit g=true/\path[g]? =some y/\((∃c,y.v=.sv (.one (.bool c))/\c≠b)\/∃vs,y.v=.mD vs)
def rD(Θ:jm)(Γ:kM)(R:Reg)(base:St)(path:List dN)(i:Nat)(o:Oper)(x:dN):Prop:=
 rU R.n i o=some x.d/\(R.ms.getD i 0)<2 ^ i/\
 ((Wanted R path i o/\
    ((yj Γ o.op=false/\XG o.op=false/\∃p v δ,calm Θ Γ x.d (viewAt R base path i) o.op=some (p,v,δ)/\p/\CB x.d δ=true/\x=oz R.F ⟨x.d,v,[],δ,[]⟩)\/
     (yj Γ o.op=false/\XG o.op=true/\∃p q y,DF Θ (viewAt R base path i) o.op=some (p,q,y)/\p/\(aK R.D (q / 64)=true/\q / 64≠x.d/\Hf R.A i q=true)/\
       x=oz R.F ⟨x.d,.sv (.one (.ref (x.d*64+1))),[],[(x.d*64+1,y)],[q]⟩)\/
     (yj Γ o.op=true/\yV o.op=true/\∃υ,KQ Θ (viewAt R base path i) o.op=some υ/\akP R.D R.U υ=true/\x=⟨x.d,.mD [],υ,[],[]⟩)\/
     ((yj Γ o.op=true/\yV o.op=false)/\x.k=[]/\∃p ρ os t,PG Γ (viewAt R base path i) o.op=some (p,ρ,os)/\p/\ρ.R t/\
        (∀t,ρ.R t->∃r,FP R.D R.U x.d (viewAt R base path i) os (ρ.out t) (ρ.aC t)=some r)/\
        FP R.D R.U x.d (viewAt R base path i) os (ρ.out t) (ρ.aC t)=some (x.v,x.u,x.δ))))\/
  (ZJ R path i o/\x=skipped x.d))
def Enabled(Θ:jm)(Γ:kM)(R:Reg)(base:St)(path:List dN)(i:Nat)(o:Oper):Prop:=
 ∃d,rU R.n i o=some d/\(R.ms.getD i 0)<2 ^ i/\
 ((Wanted R path i o/\
    ((yj Γ o.op=false/\XG o.op=false/\∃p v δ,calm Θ Γ d (viewAt R base path i) o.op=some (p,v,δ)/\p/\CB d δ=true)\/
     (yj Γ o.op=false/\XG o.op=true/\∃p q y,DF Θ (viewAt R base path i) o.op=some (p,q,y)/\p/\(aK R.D (q / 64)=true/\q / 64≠d/\Hf R.A i q=true))\/
     (yj Γ o.op=true/\yV o.op=true/\∃υ,KQ Θ (viewAt R base path i) o.op=some υ/\akP R.D R.U υ=true)\/
     ((yj Γ o.op=true/\yV o.op=false)/\∃p ρ os,PG Γ (viewAt R base path i) o.op=some (p,ρ,os)/\p/\
        ∀t,ρ.R t->∃r,FP R.D R.U d (viewAt R base path i) os (ρ.out t) (ρ.aC t)=some r)))\/
  ZJ R path i o)
theorem ahl{g:Nat}{b:Bool}{acc:List dN}{x:dN}(h:acc[g]? =some x)(hv:x.v=.sv (.one (.bool b))):fix g b acc=acc:=by
 unfold fix;rw[h];obtain⟨hlt,hx⟩:=auT.1 h;refine awu λi=>?_;by_cases hi:i=g
 .subst hi;rw[avT hlt,h];cases x;simp at hv;simp[hv]
 .rw[avy (aww hi)]
theorem ae0:∀(l:List dN)(j:Nat)(m:Nat->Bool),(∀i,j<=i->m i=false)->pick l j m=[]
 |[],_,_,_=>rfl
 |x::r,j,m,h=>by rw[pick,h j (auH _)];exact ae0 r (j+1) m λi hi=>h i aaV
theorem Oi(r:List dN)(m:Nat->Bool):∀(l:List dN)(j:Nat),pick (l++r) j m=pick l j m++pick r (j+l.length) m
 |[],j=>by simp[pick]
 |x::l,j=>by rw[avH,pick,pick,Oi r m l (j+1),auE,show j+1+l.length=j+(l.length+1)from aaV];cases m j<;>rfl
theorem JG{m:Nat->Bool}:∀(l l':List dN)(j:Nat),(∀i,m (j+i)=true->l[i]? =l'[i]?)->pick l j m=pick l' j m
 |[],[],_,_=>rfl
 |[],y::r,j,h=>by
  cases hm:m j with
  |true=>have:=h 0 arX;simp at this
  |false=>
   rw[pick,pick,hm];exact JG [] r (j+1) λi hi=>by have:=h (i+1) (by rw[show j+(i+1)=j+1+i from aaV];exact hi);simpa using this
 |x::l,[],j,h=>by
  cases hm:m j with
  |true=>have:=h 0 arX;simp at this
  |false=>
   rw[pick,pick,hm];exact JG l [] (j+1) λi hi=>by have:=h (i+1) (by rw[show j+(i+1)=j+1+i from aaV];exact hi);simpa using this
 |x::l,y::r,j,h=>by
  have ih:=JG l r (j+1) λi hi=>by have:=h (i+1) (by rw[show j+(i+1)=j+1+i from aaV];exact hi);simpa using this
  rw[pick,pick];cases hm:m j with
  |true=>have:=h 0 arX;simp at this;rw[this,ih]
  |false=>exact ih
theorem kP{m:Nat->Bool}{x:dN}:∀(l:List dN)(j:Nat),x∈pick l j m↔∃i,m (j+i)=true/\l[i]? =some x
 |[],j=>by simp[pick]
 |y::l,j=>by
  have ih:=kP (m:=m) (x:=x) l (j+1);have e:∀i,j+1+i=j+(i+1):=λi=>aaV;rw[pick];cases hm:m j with
  |true=>
   simp only[auQ,ih];constructor
   .rintro(rfl|⟨i,h1,h2⟩)
    .exact⟨0,arX,rfl⟩
    .exact⟨i+1,by rw[← e];exact h1,ah9⟩
   .rintro⟨i,h1,h2⟩;cases i with
    |zero=>simp at h2;exact .inl h2.symm
    |succ i=>exact .inr ⟨i,by rw[e];exact h1,ah9⟩
  |false=>
   simp only[ih];constructor
   .rintro⟨i,h1,h2⟩;exact⟨i+1,by rw[← e];exact h1,ah9⟩
   .rintro⟨i,h1,h2⟩;cases i with
    |zero=>rw[av8,hm]at h1;cases h1
    |succ i=>exact⟨i,by rw[e];exact h1,ah9⟩
theorem oD{m i j:Nat}(h:m<2 ^ i)(hj:i<=j):m.testBit j=false:=
 Nat.testBit_lt_two_pow (au6 h (Nat.pow_le_pow_right abV hj))
theorem KR{R:Reg}{base:St}{l l':List dN}{i:Nat}(h:∀j,(R.ms.getD i 0).testBit j=true->l[j]? =l'[j]?):viewAt R base l i=viewAt R base l' i:=by unfold viewAt after;rw[JG l l' 0 λj hj=>h j amH]
theorem rD.agree{R:Reg}{base:St}{l l':List dN}{i:Nat}{o:Oper}{x:dN}(h:∀j,(R.ms.getD i 0).testBit j=true->l[j]? =l'[j]?)(hr:rD Θ Γ R base l i o x):rD Θ Γ R base l' i o x:=by
 obtain⟨h1,h2,h3⟩:=hr;refine⟨h1,h2,?_⟩;rw[← KR h];refine h3.imp (And.imp (Or.imp id ?_) id) (And.imp ?_ id)
 .rintro⟨g,b,y,e1,e2,e3,e4⟩;exact⟨g,b,y,e1,e2,h g e2▸e3,e4⟩
 .rintro⟨g,b,y,e1,e2,e3,e4⟩;exact⟨g,b,y,e1,e2,h g e2▸e3,e4⟩
theorem Enabled.agree{R:Reg}{base:St}{l l':List dN}{i:Nat}{o:Oper}(h:∀j,(R.ms.getD i 0).testBit j=true->l[j]? =l'[j]?)(hr:Enabled Θ Γ R base l i o):Enabled Θ Γ R base l' i o:=by
 obtain⟨d,h1,h2,h3⟩:=hr;refine⟨d,h1,h2,?_⟩;rw[← KR h];refine h3.imp (And.imp (Or.imp id ?_) id) ?_
 .rintro⟨g,b,y,e1,e2,e3,e4⟩;exact⟨g,b,y,e1,e2,h g e2▸e3,e4⟩
 .rintro⟨g,b,y,e1,e2,e3,e4⟩;exact⟨g,b,y,e1,e2,h g e2▸e3,e4⟩
theorem sJ{l:List Nat}{x:Nat}:aK l x=true↔x∈l:=by
 induction l with
 |nil=>simp[aK]
 |cons y l ih=>
  rw[aK,auQ];cases hb:Nat.beq x y with
  |true=>simp[auG hb]
  |false=>
   simp only[ih];constructor
   .exact .inr
   .rintro(rfl|h)
    .simp at hb
    .exact h
theorem abn{n:Nat}{o:Oper}{d:Nat}:∀(l:List Oper)(i j:Nat),l[j]? =some o->rU n (i+j) o=some d->d∈dstsOf n i l
 |[],_,_,ho,_=>by simp at ho
 |x::r,i,0,ho,hd=>by
  simp at ho;subst ho;rw[av8]at hd;rw[dstsOf,hd];exact auO
 |x::r,i,j+1,ho,hd=>by
  have:=abn r (i+1) j aqL (by rw[show i+1+j=i+(j+1)from aaV];exact hd);rw[dstsOf];split
  .exact auM _ this
  .exact this
def ZK(Θ:jm)(Γ:kM)(R:Reg)(base:St)(ops:List Oper)(path:List dN):Prop:=
 ∀i o x,ops[i]? =some o->path[i]? =some x->rD Θ Γ R base path i o x
theorem zT{acc ext:List dN}{j:Nat}(h:j<acc.length):(acc++ext)[j]? =acc[j]? :=avn h
theorem YO{R:Reg}{base:St}{K:List dN->Prop}:∀(rest pre:List Oper)(acc ext:List dN),acc.length=pre.length->ext.length<=rest.length->
 tY Θ Γ R base K pre.length rest acc->ZK Θ Γ R base (pre++rest) (acc++ext)->
 (ext.length=rest.length->K (acc++ext))/\∀o,rest[ext.length]? =some o->Enabled Θ Γ R base (acc++ext) (pre.length+ext.length) o
 |[],pre,acc,ext,hl,hle,hr,hc=>by
  have:ext=[]:=by cases ext with|nil=>rfl|cons _ _=>simp at hle
  subst this;rw[tY]at hr;exact⟨λ_=>by rw[au7];exact hr,λo ho=>by simp at ho⟩
 |o::rest,pre,acc,ext,hl,hle,hr,hc=>by
  rw[tY]at hr;split at hr
  case h_2=>exact hr.elim
  next d hd hm=>
  have hm':R.ms.getD pre.length 0<2 ^ pre.length:=by simpa[axj]using hm
  have key:(Wanted R acc pre.length o/\J4 Θ Γ R base pre.length o d acc (tY Θ Γ R base K (pre.length+1) rest))\/
   (ZJ R acc pre.length o/\tY Θ Γ R base K (pre.length+1) rest (acc++[skipped d])):=by
   split at hr
   .next hg=>exact .inl ⟨.inl hg,hr⟩
   .next g b hg=>
    split at hr
    .next x hbit hx=>
     split at hr
     .next c hc'=>
      cases c
      .simp only[aw2,ahl hx hc']at hr;cases b
       .exact .inl ⟨.inr ⟨g,false,x,hg,hbit,hx,hc'⟩,hr⟩
       .exact .inr ⟨⟨g,true,x,hg,hbit,hx,.inl ⟨false,hc',abZ⟩⟩,hr⟩
      .simp only[axH,ahl hx hc']at hr;cases b
       .exact .inr ⟨⟨g,false,x,hg,hbit,hx,.inl ⟨true,hc',abZ⟩⟩,hr⟩
       .exact .inl ⟨.inr ⟨g,true,x,hg,hbit,hx,hc'⟩,hr⟩
     .next vs hc'=>exact .inr ⟨⟨g,b,x,hg,hbit,hx,.inr ⟨vs,hc'⟩⟩,hr⟩
     .exact hr.elim
    .exact hr.elim
  have ahm:∀ext:List dN,∀j,(R.ms.getD pre.length 0).testBit j=true->acc[j]? =(acc++ext)[j]? :=by
   intro ext j hj;rcases au2 j acc.length with h|h
   .rw[zT h]
   .rw[oD hm' aaV]at hj;cases hj
  cases ext with
  |nil=>
   refine⟨λh=>amd,λo' ho'=>?_⟩;have:o'=o:=by simpa using ho'.symm
   subst this;rw[au7];simp only[auI,av8];refine⟨d,hd,hm',?_⟩;rcases key with⟨hw,hs⟩|⟨hw,_⟩
   .refine .inl ⟨hw,?_⟩;unfold J4 at hs;split at hs
    .next he=>
     split at hs
     .next hst=>
      refine .inr (.inr (.inl ⟨he,hst,?_⟩));split at hs
      .next υ hυ=>
       split at hs
       .next hin=>exact⟨υ,hυ,hin⟩
       .exact hs.elim
      .exact hs.elim
     .next hst=>
      refine .inr (.inr (.inr ⟨⟨he,hst⟩,?_⟩));split at hs
      .next p ρ os hrel=>
       refine⟨p,ρ,os,hrel,hs.1,λt ht=>?_⟩;have:=hs.2 t ht;split at this
       .next v υ δ hres=>exact⟨_,hres⟩
       .exact this.elim
      .exact hs.elim
    .next he=>
     split at hs
     .next ha=>
      refine .inr (.inl ⟨he,ha,?_⟩);split at hs
      .next p q y happ=>
       split at hs
       .next hb=>rw[auC,auC]at hb;exact⟨p,q,y,happ,hs.1,hb.1,(λe=>by rw[e,avr]at hb;simp at hb),hb.2.2⟩
       .exact hs.elim
      .exact hs.elim
     .next ha=>
      refine .inl ⟨he,ha,?_⟩;split at hs
      .next p v δ hcalm=>
       split at hs
       .next hn hq=>exact⟨p,v,δ,hcalm,QZ hcalm hq,hn⟩
       .next hn hq=>exact⟨p,v,δ,hcalm,hs.1,hn⟩
       .exact hs.elim
      .exact hs.elim
   .exact .inr hw
  |cons x ext=>
   have hx:rD Θ Γ R base (acc++x::ext) pre.length o x:=by
    refine hc pre.length o x ?_ ?_
    .rw[avc (auH _)];simp
    .rw[← hl,avc (auH _)];simp
   obtain⟨e1,_,e3⟩:=hx;have hxd:x.d=d:=by rw[hd]at e1;exact(Option.some.inj e1).symm
   have aqS:viewAt R base acc pre.length=viewAt R base (acc++x::ext) pre.length:=KR (ahm _);have hnext:tY Θ Γ R base K (pre.length+1) rest (acc++[x]):=by
    rcases key with⟨hw,hs⟩|⟨hw,hs⟩
    .rcases e3 with⟨_,e3⟩|⟨⟨g,b,y,f1,f2,f3,f4⟩,_⟩
     .rw[← aqS,hxd]at e3;unfold J4 at hs;rcases e3 with⟨he,ha,p,v,δ,hcalm,_,hn,hxx⟩|⟨he,ha,p,q,y,happ,_,_,hxx⟩|⟨he,hst,υ,hυ,hin,hxx⟩|⟨⟨he,hst⟩,hk,p,ρ,os,t,hrel,_,ht,_,hres⟩
      .rw[he,ha]at hs;simp only[hcalm]at hs;split at hs
       .rw[hxx];exact hs
       .rw[hxx];exact hs.2
       .exact hs.elim
      .rw[he,ha]at hs;simp only[happ]at hs;split at hs
       .rw[hxx];exact hs.2
       .exact hs.elim
      .rw[he,hst]at hs;simp only[hυ,hin]at hs;rw[hxx];exact hs
      .rw[he,hst]at hs;simp only[hrel]at hs;have h2:=hs.2 t ht;simp only[hres]at h2;have ex:x=⟨d,x.v,x.u,x.δ,[]⟩:=by cases x;simp at hxd hk;simp[hxd,hk]
       rw[ex];exact h2
     .exfalso;rw[← ahm _ g f2]at f3;rcases hw with hw|⟨g',b',y',k1,k2,k3,k4⟩
      .rw[hw]at f1;cases f1
      .rw[f1]at k1;cases k1;rw[f3]at k3;cases k3;rcases f4 with⟨c,f4,hne⟩|⟨vs,f4⟩
       .rw[f4]at k4;cases k4;exact hne rfl
       .rw[f4]at k4;cases k4
    .rcases e3 with⟨hw',_⟩|⟨_,f1⟩
     .exfalso;obtain⟨g,b,y,k1,k2,k3,k4⟩:=hw;rcases hw' with hw'|⟨g',b',y',l1,l2,l3,l4⟩
      .rw[hw']at k1;cases k1
      .rw[k1]at l1;cases l1;rw[← ahm _ g l2,k3]at l3;cases l3;rcases k4 with⟨c,k4,hne⟩|⟨vs,k4⟩
       .rw[k4]at l4;cases l4;exact hne rfl
       .rw[k4]at l4;cases l4
     .rw[hxd]at f1;rw[f1];exact hs
   have ih:=YO rest (pre++[o]) (acc++[x]) ext ar1 (by simpa using hle) (by simpa using hnext) arW;simp only[auR,List.singleton_append,auB,auE,auI]at ih;refine⟨λh=>ih.1 acs,λo' ho'=>?_⟩;have:=ih.2 o' (by simpa using ho');rw[show pre.length+(0+1)+ext.length=pre.length+(ext.length+1)from aaV]at this;simpa using this
theorem Eg(acc:List Nat)(j:Nat):∀(es:List Edge),(BK acc es).testBit j=true↔∃e∈es,Region.binds .any e=true/\(e.on=j\/(acc.getD e.on 0).testBit j=true)
 |[]=>by simp[BK]
 |e::r=>by
  rw[BK];cases hb:Region.binds .any e with
  |false=>
   simp only[Eg acc j r,auQ];constructor
   .rintro⟨e',h1,h2⟩;exact⟨e',.inr h1,h2⟩
   .rintro⟨e',rfl|h1,h2⟩
    .rw[hb]at h2;cases h2.1
    .exact⟨e',h1,h2⟩
  |true=>
   simp only[Nat.testBit_or,avK,Eg acc j r,auQ,Nat.testBit_two_pow,auP];constructor
   .rintro((h|h)|⟨e',h1,h2⟩)
    .exact⟨e,.inl rfl,hb,.inl h⟩
    .exact⟨e,.inl rfl,hb,.inr h⟩
    .exact⟨e',.inr h1,h2⟩
   .rintro⟨e',rfl|h1,h2⟩
    .exact .inl h2.2
    .exact .inr ⟨e',h1,h2⟩
theorem Rf:∀(l:List Oper)(acc:List Nat)(i:Nat),i<acc.length->(masks l acc).getD i 0=acc.getD i 0
 |[],_,_,_=>rfl
 |o::r,acc,i,h=>by rw[masks,Rf r _ i aeV];simp[auF,avn h]
theorem Rh:∀(l:List Oper)(acc:List Nat)(i:Nat)(o:Oper),l[i]? =some o->∃acc',(masks l acc).getD (acc.length+i) 0=BK acc' o.after.toList/\
 (∀j,j<acc'.length->(masks l acc).getD j 0=acc'.getD j 0)
 |[],_,_,_,h=>amd
 |o::r,acc,0,o',h=>by
  simp at h;subst h;refine⟨acc,?_,λj hj=>?_⟩
  .rw[masks,Rf r _ _ abZ];simp[auF]
  .rw[masks,Rf r _ _ aeV];simp[auF,avn hj]
 |o::r,acc,i+1,o',h=>by
  obtain⟨acc',h1,h2⟩:=Rh r (acc++[BK acc o.after.toList]) i o' acs;refine⟨acc',?_,?_⟩
  .rw[masks,← h1];simp only[auB,List.length_singleton];congr 1;omega
  .rw[masks];exact h2
theorem ae1{ops:List Oper}{i:Nat}{o:Oper}(ho:ops[i]? =some o){e:Edge}(he:e∈o.after)(hb:Region.binds .any e=true):((masks ops []).getD i 0).testBit e.on=true:=by obtain⟨acc',h1,_⟩:=Rh ops [] i o ho;simp only[auI,au8]at h1;rw[h1,Eg];exact⟨e,by simpa using he,hb,.inl rfl⟩
theorem ama{ops:List Oper}{i:Nat}{o:Oper}(ho:ops[i]? =some o){j:Nat}(hj:((masks ops []).getD i 0).testBit j=true):
 ∃e∈o.after,Region.binds .any e=true/\(e.on=j\/((masks ops []).getD e.on 0).testBit j=true):=by
 obtain⟨acc',h1,h2⟩:=Rh ops [] i o ho;simp only[auI,au8]at h1;rw[h1,Eg]at hj;obtain⟨e,he,hb,hj⟩:=hj;refine⟨e,by simpa using he,hb,hj.imp id λh=>?_⟩;rcases au2 e.on acc'.length with hlt|hge
 .rw[h2 _ hlt];exact h
 .rw[auF,avF hge]at h;simp at h
def EP(L:Nat->Bool):Nat->Nat
 |0=>0
 |n+1=>(match L n with|true=>0|false=>1)+EP L n
theorem ae2{L L':Nat->Bool}:∀(n:Nat),(∀i,i<n->L i=L' i)->EP L n=EP L' n
 |0,_=>rfl
 |n+1,h=>by rw[EP,EP,h n aaV,ae2 n λi hi=>h i aaV]
theorem ajL{L L':Nat->Bool}{i:Nat}(hi:L i=false)(hi':L' i=true)(h:∀j,j≠i->L' j=L j):∀(n:Nat),i<n->EP L' n+1=EP L n
 |0,hn=>aaV
 |n+1,hn=>by
  rw[EP,EP];by_cases e:n=i
  .subst e;rw[hi,hi',ae2 (L:=L') (L':=L) n λj hj=>h j aaV];simp only;omega
  .have:=ajL hi hi' h n aaV;rw[h n e];omega
theorem ahn{L:Nat->Bool}:∀(n:Nat),EP L n=0->∀i,i<n->L i=true
 |0,_,i,hi=>aaV
 |n+1,h,i,hi=>by
  rw[EP]at h;cases hl:L n with
  |false=>simp only[hl]at h;omega
  |true=>
   by_cases e:i=n
   .rw[e];exact hl
   .exact ahn n (by simp only[hl]at h;omega) i aaV
theorem least{p:Nat->Prop}[DecidablePred p]:∀(n:Nat),(∃i,i<n/\p i)->∃i,i<n/\p i/\∀j,j<i->¬p j:=by
 intro n
 induction n using Nat.strongRecOn with
 |_ n ih=>
  rintro⟨i,hi,hp⟩;by_cases h:∃j,j<i/\p j
  .obtain⟨j,hj,h1,h2⟩:=ih i hi h;exact⟨j,aaV,h1,h2⟩
  .exact⟨i,hi,hp,λj hj hpj=>h ⟨j,hj,hpj⟩⟩
structure Fits(D U:List Nat)(l:List dN):Prop where
 one:∀x∈l,∀y∈l,x.d=y.d->x=y
 mem:∀x∈l,aK D x.d=true
 new:∀x∈l,CB x.d x.δ=true
 upd:∀x∈l,∀o y,look x.u o=some y->aK U o=true/\aK D (o / 64)=false
theorem sK{d:Nat}{δ:List (Nat×ay)}(h:CB d δ=true){o:Nat}{y:ay}(hl:look δ o=some y):o / 64=d:=
 auG (auY.1 h _ (xH δ o y hl))
theorem Ri{t:Nat}{b:AV}:∀(l:List dN),(∀x∈l,x.d≠t)->yh l t b=b
 |[],_=>rfl
 |x::r,h=>by
  rw[yh];have:Nat.beq t x.d=false:=by
   cases hb:Nat.beq t x.d with
   |false=>rfl
   |true=>exact(h x auO (auG hb).symm).elim
  rw[this];exact Ri r λy hy=>h y (auM _ hy)
theorem Nl{b:AV}{x:dN}:∀(l:List dN),x∈l->(∀y∈l,x.d=y.d->x=y)->yh l x.d b=x.v
 |[],h,_=>afH
 |y::r,h,hu=>by
  rw[yh];cases hb:Nat.beq x.d y.d with
  |true=>rw[hu y auO (auG hb)]
  |false=>
   rcases auQ.1 h with rfl|h
   .simp at hb
   .exact Nl r h λz hz=>hu z (auM _ hz)
theorem JH{o:Nat}{b:Option ay}:∀(l:List dN),(∀x∈l,look x.δ o=none)->lookO l o b=b
 |[],_=>rfl
 |x::r,h=>by rw[lookO,h x auO];exact JH r λy hy=>h y (auM _ hy)
theorem VH{o:Nat}{b:Option ay}{x:dN}{z:ay}:∀(l:List dN),x∈l->look x.δ o=some z->(∀y∈l,∀z',look y.δ o=some z'->x=y)->lookO l o b=some z
 |[],h,_,_=>afH
 |y::r,h,hz,hu=>by
  rw[lookO];cases hy:look y.δ o with
  |some z'=>have:=hu y auO z' hy;subst this;rw[hz]at hy;exact hy.symm
  |none=>
   rcases auQ.1 h with rfl|h
   .rw[hz]at hy;cases hy
   .exact VH r h hz λw hw=>hu w (auM _ hw)
theorem CG{o:Nat}:∀(l:List dN),(∀x∈l,look x.u o=none)->nI l o=none
 |[],_=>rfl
 |x::r,h=>by rw[nI,CG r λy hy=>h y (auM _ hy)];exact h x auO
theorem KT{o:Nat}(r:List dN):∀(l:List dN),nI (l++r) o=match nI r o with|some y=>some y|none=>nI l o
 |[]=>by simp only[avx,nI];cases nI r o<;>rfl
 |x::l=>by rw[avH,nI,KT r l,nI];cases nI r o<;>rfl
theorem YP{o:Nat}{m m':Nat->Bool}:∀(l:List dN)(j:Nat),(∀i x,l[i]? =some x->x.u≠[]->m (j+i)=m' (j+i))->nI (pick l j m) o=nI (pick l j m') o
 |[],_,_=>rfl
 |x::r,j,h=>by
  have ih:=YP (o:=o) (m:=m) (m':=m') r (j+1) (λi y hi hy=>by
   have:=h (i+1) y ah7 hy
   rwa [show j+(i+1)=j+1+i from aaV]at this)
  have h0:=h 0 x rfl;rw[av8]at h0;rw[pick,pick];cases hm:m j<;>cases hm':m' j
  .exact ih
  .have hx:x.u=[]:=avS λe=>by have:=h0 e;rw[hm,hm']at this;cases this
   simp only[nI,hx,look];rw[ih];cases nI (pick r (j+1) m') o<;>rfl
  .have hx:x.u=[]:=avS λe=>by have:=h0 e;rw[hm,hm']at this;cases this
   simp only[nI,hx,look];rw[ih];cases nI (pick r (j+1) m') o<;>rfl
  .simp only[nI,ih]
theorem YQ{x:dN}{t:Nat}{b:AV}(r:List dN):∀(l:List dN),(∀y∈l,y.d≠x.d)->yh (l++x::r) t b=match Nat.beq t x.d with|true=>x.v|false=>yh (l++r) t b
 |[],_=>by simp only[avx,yh]<;>rfl
 |y::l,h=>by
  rw[avH,avH,yh,YQ r l λz hz=>h z (auM _ hz),yh];cases hb:Nat.beq t y.d with
  |false=>rfl
  |true=>
   have:Nat.beq t x.d=false:=by
    cases hb2:Nat.beq t x.d with
    |false=>rfl
    |true=>exact(h y auO ((auG hb).symm.trans (auG hb2))).elim
   rw[this]
theorem YR{x:dN}{o:Nat}{b:Option ay}(r:List dN):∀(l:List dN),(∀y∈l,∀z z',look y.δ o=some z->look x.δ o=some z'->False)->
 lookO (l++x::r) o b=match look x.δ o with|some y=>some y|none=>lookO (l++r) o b
 |[],_=>by simp only[avx,lookO]<;>(cases look x.δ o<;>rfl)
 |y::l,h=>by
  rw[avH,avH,lookO,YR r l λz hz=>h z (auM _ hz),lookO];cases hy:look y.δ o with
  |none=>rfl
  |some z=>
   cases hx:look x.δ o with
   |none=>rfl
   |some z'=>exact(h y auO z z' hy hx).elim
theorem ai2{base:St}{D U:List Nat}{l r:List dN}{x:dN}(hf:Fits D U (l++x::r))(hne:∀y∈l++r,y.d≠x.d)(hu:x.u≠[]->∀y∈r,y.u=[]):
 (((lD base (l++r)).adds x.u).adds x.δ).set x.d x.v=lD base (l++x::r):=by
 have hx:x∈l++x::r:=abZ;have hsub:∀y∈l++r,y∈l++x::r:=λy hy=>by
  rcases au4.1 hy with h|h
  .exact avp _ h
  .exact avJ _ (auM _ h)
 have e1:(((lD base (l++r)).adds x.u).adds x.δ).set x.d x.v={n:=base.n,tmps:=λt=>match Nat.beq t x.d with|true=>x.v|false=>yh (l++r) t (base.tmps t),ah:=(((lD base (l++r)).adds x.u).adds x.δ).ah}:=by rw[Ph,Ph (lD base (l++r)) x.u];rfl
 rw[e1];unfold lD;congr 1
 · funext t
   rw[YQ r l λy hy=>hne y (avp _ hy)]
 · funext o
   rw[mO,mO];have hO:=YR (x:=x) (o:=o) (b:=base.ah o) r l λy hy z z' hz hz'=>hne y (avp _ hy) ((sK (hf.new y (hsub y (avp _ hy))) hz).symm.trans (sK (hf.new x hx) hz'));have hU:nI (l++x::r) o=match look x.u o with|some y=>some y|none=>nI (l++r) o:=by
    rw[KT,KT,nI];by_cases hxu:x.u=[]
    .rw[hxu,look];cases nI r o<;>rfl
    .rw[CG r λy hy=>by rw[hu hxu y hy];rfl]
   rw[hO,hU];cases hδ:look x.δ o with
   |none=>cases look x.u o<;>rfl
   |some z=>
    have hod:aK D (o / 64)=true:=by rw[sK (hf.new x hx) hδ];exact hf.mem x hx
    have nou:∀y∈l++x::r,look y.u o=none:=λy hy=>by
     cases hl:look y.u o with
     |none=>rfl
     |some w=>have:=(hf.upd y hy o w hl).2;rw[hod]at this;cases this
    rw[nou x hx,CG (l++r) λy hy=>nou y (hsub y hy)]
theorem nJ{o:Nat}:∀(l:List dN),aK (ng l) o=true↔∃x∈l,o∈x.k
 |[]=>by simp[ng,aK]
 |x::r=>by
  rw[sJ,ng,au4,← sJ (l:=ng r),nJ r];constructor
  .rintro(h|⟨y,hy,h⟩)
   .exact⟨x,auO,h⟩
   .exact⟨y,auM _ hy,h⟩
  .rintro⟨y,hy,h⟩;rcases auQ.1 hy with rfl|hy
   .exact .inl h
   .exact .inr ⟨y,hy,h⟩
theorem Cell.yX{S:Nat->Bool}(h:∀o,S o=false):∀(c:Cell),c.kill S=c
 |.int _ _|.bool _|.str _|.nil|.sl _ _ _ _|.junk=>rfl
 |.ref o=>by simp only[Cell.kill,h o]
theorem Cell.qP{S S' S2:Nat->Bool}(h:∀o,S2 o=(S o||S' o)):∀(c:Cell),(c.kill S).kill S'=c.kill S2
 |.int _ _|.bool _|.str _|.nil|.sl _ _ _ _|.junk=>rfl
 |.ref o=>by
  simp only[Cell.kill,h o];cases S o
  .simp only[axo]
  .rfl
theorem Bq{S S' S2:Nat->Bool}(h:∀o,S2 o=(S o||S' o))(cs:List Cell):(cs.map (Cell.kill S)).map (Cell.kill S')=cs.map (Cell.kill S2):=by rw[av4];exact awi λc _=>Cell.qP h c
theorem SV.qP{S S' S2:Nat->Bool}(h:∀o,S2 o=(S o||S' o)):∀(c:SV),(c.kill S).kill S'=c.kill S2
 |.one c=>by simp only[SV.kill,Cell.qP h]
 |.agg cs=>by simp only[SV.kill,Bq h]
theorem AV.qP{S S' S2:Nat->Bool}(h:∀o,S2 o=(S o||S' o)):∀(c:AV),(c.kill S).kill S'=c.kill S2
 |.undef=>rfl
 |.sv v=>by simp only[AV.kill,SV.qP h]
 |.mD vs=>by
  simp only[AV.kill];rw[av4,awi λc _=>(show((SV.kill S') ∘ (SV.kill S)) c=SV.kill S2 c from SV.qP h c)]
 |.bK o off=>by
  simp only[AV.kill,h o];cases S o
  .simp only[axo]
  .rfl
 |.nR o i off=>by
  simp only[AV.kill,h o];cases S o
  .simp only[axo]
  .rfl
 |.win o i off=>by
  simp only[AV.kill,h o];cases S o
  .simp only[axo]
  .rfl
 |.pW _ _ _ _=>rfl
 |.fA cs off=>by simp only[AV.kill,Bq h]
 |.fn g caps=>by simp only[AV.kill];rw[av4,awi λc _=>(show((List.map (Cell.kill S')) ∘ (List.map (Cell.kill S))) c=List.map (Cell.kill S2) c from Bq h c)]
theorem ay.qP{S S' S2:Nat->Bool}(h:∀o,S2 o=(S o||S' o)):∀(c:ay),(c.kill S).kill S'=c.kill S2
 |.var cs=>by simp only[ay.kill,Bq h]
 |.arr _ _ _ _=>rfl
theorem St.qP{S S' S2:Nat->Bool}(h:∀o,S2 o=(S o||S' o))(st:St):(st.kill S).kill S'=st.kill S2:=by
 simp only[St.kill,St.mk.injEq,axe];refine⟨funext λt=>AV.qP h _,funext λo=>?_⟩;simp only[h o];cases S' o with
 |true=>cases S o<;>rfl
 |false=>
  cases S o with
  |true=>rfl
  |false=>
   simp only[Bool.or_false];cases st.ah o with
   |none=>rfl
   |some y=>simp only[avz,ay.qP h]
theorem Eh{S:Nat->Bool}(h:∀o,S o=false)(cs:List Cell):cs.map (Cell.kill S)=cs:=by rw[show Cell.kill S=id from funext (Cell.yX h),axm]
theorem SV.yX{S:Nat->Bool}(h:∀o,S o=false):∀(c:SV),c.kill S=c
 |.one c=>by simp only[SV.kill,Cell.yX h]
 |.agg cs=>by simp only[SV.kill,Eh h]
theorem AV.yX{S:Nat->Bool}(h:∀o,S o=false):∀(c:AV),c.kill S=c
 |.undef=>rfl
 |.sv v=>by simp only[AV.kill,SV.yX h]
 |.mD vs=>by simp only[AV.kill];rw[show SV.kill S=id from funext (SV.yX h),axm]
 |.bK o off=>aoG
 |.nR o i off=>aoG
 |.win o i off=>aoG
 |.pW _ _ _ _=>rfl
 |.fA cs off=>by simp only[AV.kill,Eh h]
 |.fn g caps=>by simp only[AV.kill];rw[show List.map (Cell.kill S)=id from funext (Eh h),axm]
theorem ay.yX{S:Nat->Bool}(h:∀o,S o=false):∀(c:ay),c.kill S=c
 |.var cs=>by simp only[ay.kill,Eh h]
 |.arr _ _ _ _=>rfl
theorem St.yX{S:Nat->Bool}(h:∀o,S o=false)(st:St):st.kill S=st:=by
 cases st with
 |mk n t o=>
  simp only[St.kill,St.mk.injEq,axe];refine⟨funext λq=>AV.yX h _,funext λq=>?_⟩;simp only[h q];cases o q with
  |none=>rfl
  |some y=>simp only[avz,ay.yX h]
theorem mg(l:List Nat)(st:St):sH l st=st.kill (aK l):=by
 cases l with
 |nil=>exact(St.yX (λ_=>rfl) st).symm
 |cons=>rfl
theorem Rel.sH(h:Rel w0 M T γ st a w)(l:List Nat):Rel w0 M T γ (sH l st) a w:=by rw[mg];exact h.kill _
theorem Cell.uz{X:V}{S:Nat->Bool}(h:∀o,S o=true->X.ah o=none):∀(c:Cell)(v:Value),aO X c v->c.kill S=c
 |.int _ _,_,_|.bool _,_,_|.str _,_,_|.nil,_,_|.sl _ _ _ _,_,_|.junk,_,_=>rfl
 |.ref o,v,⟨⟨e,r,l,fr,ho⟩,_⟩=>by
  simp only[Cell.kill];cases hs:S o with
  |false=>rfl
  |true=>rw[h o hs]at ho;cases ho
theorem yY{X:V}{S:Nat->Bool}(h:∀o,S o=true->X.ah o=none):∀(cs:List Cell)(vs:List Value),ai X cs vs->cs.map (Cell.kill S)=cs
 |[],[],_=>rfl
 |c::cs,v::vs,H=>by rw[auX,Cell.uz h c v H.1,yY h cs vs H.2]
 |[],_::_,H|_::_,[],H=>afG
theorem SV.uz{X:V}{S:Nat->Bool}(h:∀o,S o=true->X.ah o=none):∀(c:SV)(v:Value),dF X c v->c.kill S=c
 |.one c,v,H=>by rw[SV.kill,Cell.uz h c v H]
 |.agg cs,v,⟨vs,_,H⟩=>by rw[SV.kill,yY h cs _ H]
theorem VI{X:V}{S:Nat->Bool}(h:∀o,S o=true->X.ah o=none):∀(cs:List SV)(vs:List Value),dG X cs vs->cs.map (SV.kill S)=cs
 |[],[],_=>rfl
 |c::cs,v::vs,H=>by rw[auX,SV.uz h c v H.1,VI h cs vs H.2]
 |[],_::_,H|_::_,[],H=>afG
theorem Ue{X:V}{S:Nat->Bool}(h:∀o,S o=true->X.ah o=none):∀(l:List (List Cell))(us:List Value),eP X l us->l.map (List.map (Cell.kill S))=l
 |[],[],_=>rfl
 |cs::l,u::us,⟨⟨b,_,arr,t,fz,_,_,H⟩,H2⟩=>by rw[auX,yY h cs _ H,Ue h l us H2]
 |[],_::_,H|_::_,[],H=>afG
theorem AV.uz{X:V}{S:Nat->Bool}(h:∀o,S o=true->X.ah o=none):∀(c:AV)(v:Value),aP X c v->c.kill S=c
 |.undef,_,_=>rfl
 |.sv x,v,H=>by rw[AV.kill,SV.uz h x v H]
 |.mD xs,v,⟨vs,_,H⟩=>by rw[AV.kill,VI h xs _ H]
 |.bK o off,v,⟨b,cs,ho,_⟩=>by
  simp only[AV.kill];cases hs:S o with
  |false=>rfl
  |true=>rw[h o hs]at ho;cases ho
 |.nR o i off,v,⟨b,n,cap,e,r,l,fr,ho,_⟩=>by
  simp only[AV.kill];cases hs:S o with
  |false=>rfl
  |true=>rw[h o hs]at ho;cases ho
 |.win o i off,v,⟨b,n,cap,e,r,l,fr,ho,_⟩=>by
  simp only[AV.kill];cases hs:S o with
  |false=>rfl
  |true=>rw[h o hs]at ho;cases ho
 |.pW _ _ _ _,_,_=>rfl
 |.fA cs off,v,⟨b,_,arr,t,fz,_,_,H⟩=>by rw[AV.kill,yY h cs _ H]
 |.fn f caps,v,⟨us,_,H⟩=>by rw[AV.kill,Ue h caps _ H]
theorem ay.uz{X:V}{S:Nat->Bool}(h:∀o,S o=true->X.ah o=none){o:Nat}:∀(x:ay),aZ X o x->x.kill S=x
 |.var cs,⟨b,ar,t,_,_,H⟩=>by rw[ay.kill,yY h cs _ H]
 |.arr _ _ _ _,_=>rfl
theorem Cell.sN{S S' H:Nat->Bool}(h1:∀o,S o=true->S' o=true)(h2:∀o,S' o=true->S o=true\/H o=true):∀(c:Cell),(c.kill S).touch H=false->c.kill S'=c.kill S
 |.int _ _,_|.bool _,_|.str _,_|.nil,_|.sl _ _ _ _,_|.junk,_=>rfl
 |.ref o,ht=>by
  simp only[Cell.kill]at ht ⊢;cases hs:S o with
  |true=>rw[h1 o hs]
  |false=>
   rw[hs]at ht;have ht:H o=false:=ht;cases hs':S' o with
   |false=>rfl
   |true=>rcases h2 o hs' with g|g<;>simp_all
theorem uD{S S' H:Nat->Bool}(h1:∀o,S o=true->S' o=true)(h2:∀o,S' o=true->S o=true\/H o=true):∀(cs:List Cell),(cs.map (Cell.kill S)).any (Cell.touch H)=false->cs.map (Cell.kill S')=cs.map (Cell.kill S)
 |[],_=>rfl
 |c::cs,ht=>by rw[auX,List.any_cons,avR]at ht;rw[auX,auX,Cell.sN h1 h2 c ht.1,uD h1 h2 cs ht.2]
theorem SV.sN{S S' H:Nat->Bool}(h1:∀o,S o=true->S' o=true)(h2:∀o,S' o=true->S o=true\/H o=true):∀(c:SV),(c.kill S).touch H=false->c.kill S'=c.kill S
 |.one c,ht=>by simp only[SV.kill];rw[Cell.sN h1 h2 c ht]
 |.agg cs,ht=>by simp only[SV.kill];rw[uD h1 h2 cs ht]
theorem PK{S S' H:Nat->Bool}(h1:∀o,S o=true->S' o=true)(h2:∀o,S' o=true->S o=true\/H o=true):∀(cs:List SV),(cs.map (SV.kill S)).any (SV.touch H)=false->cs.map (SV.kill S')=cs.map (SV.kill S)
 |[],_=>rfl
 |c::cs,ht=>by rw[auX,List.any_cons,avR]at ht;rw[auX,auX,SV.sN h1 h2 c ht.1,PK h1 h2 cs ht.2]
theorem Np{S S' H:Nat->Bool}(h1:∀o,S o=true->S' o=true)(h2:∀o,S' o=true->S o=true\/H o=true):∀(l:List (List Cell)),((l.map (List.map (Cell.kill S))).any λcs=>cs.any (Cell.touch H))=false->l.map (List.map (Cell.kill S'))=l.map (List.map (Cell.kill S))
 |[],_=>rfl
 |c::cs,ht=>by rw[auX,List.any_cons,avR]at ht;rw[auX,auX,uD h1 h2 c ht.1,Np h1 h2 cs ht.2]
theorem AV.sN{S S' H:Nat->Bool}(h1:∀o,S o=true->S' o=true)(h2:∀o,S' o=true->S o=true\/H o=true):∀(c:AV),(c.kill S).touch H=false->c.kill S'=c.kill S
 |.undef,_=>rfl
 |.sv v,ht=>by simp only[AV.kill];rw[SV.sN h1 h2 v ht]
 |.mD vs,ht=>by simp only[AV.kill];rw[PK h1 h2 vs ht]
 |.bK o off,ht=>by
  simp only[AV.kill]at ht ⊢;cases hs:S o with
  |true=>rw[h1 o hs]
  |false=>
   rw[hs]at ht;have ht:H o=false:=ht;cases hs':S' o with
   |false=>rfl
   |true=>rcases h2 o hs' with g|g<;>simp_all
 |.nR o i off,ht=>by
  simp only[AV.kill]at ht ⊢;cases hs:S o with
  |true=>rw[h1 o hs]
  |false=>
   rw[hs]at ht;have ht:H o=false:=ht;cases hs':S' o with
   |false=>rfl
   |true=>rcases h2 o hs' with g|g<;>simp_all
 |.win o i off,ht=>by
  simp only[AV.kill]at ht ⊢;cases hs:S o with
  |true=>rw[h1 o hs]
  |false=>
   rw[hs]at ht;have ht:H o=false:=ht;cases hs':S' o with
   |false=>rfl
   |true=>rcases h2 o hs' with g|g<;>simp_all
 |.pW _ _ _ _,_=>rfl
 |.fA cs off,ht=>by simp only[AV.kill];rw[uD h1 h2 cs ht]
 |.fn g caps,ht=>by simp only[AV.kill];rw[Np h1 h2 caps ht]
theorem ay.sN{S S' H:Nat->Bool}(h1:∀o,S o=true->S' o=true)(h2:∀o,S' o=true->S o=true\/H o=true):∀(c:ay),(c.kill S).touch H=false->c.kill S'=c.kill S
 |.var cs,ht=>by simp only[ay.kill];rw[uD h1 h2 cs ht]
 |.arr _ _ _ _,_=>rfl
theorem akQ{v s:St}{lv lp hd:List Nat}(h:v.more s)(h1:∀o,aK lv o=true->aK lp o=true)(h2:∀o,aK lp o=true->aK lv o=true\/aK hd o=true):
 ((sH lv v).abm hd).more (sH lp s):=by
 have hc:∀(s:St),s.abm hd={n:=s.n,tmps:=(λt=>match (s.tmps t).touch (aK hd)with|true=>.undef|false=>s.tmps t),ah:=(λo=>match aK hd o with|true=>none|false=>match s.ah o with|some x=>(match x.touch (aK hd)with|true=>none|false=>some x)|none=>none)}:=by
  intro s;cases hd with
  |cons=>rfl
  |nil=>
   have t0:∀c:Cell,c.touch (aK [])=false:=λc=>by cases c<;>rfl
   have t1:∀cs:List Cell,cs.any (Cell.touch (aK []))=false:=λcs=>by rw[axK];exactλc _=>by rw[t0 c];simp
   have t2:∀c:SV,c.touch (aK [])=false:=λc=>by cases c with|one c=>exact t0 c|agg cs=>exact t1 cs
   have t3:∀c:AV,c.touch (aK [])=false:=λc=>by
    cases c with
    |sv v=>exact t2 v
    |mD vs=>show vs.any (SV.touch (aK []))=false;rw[axK];exactλc _=>by rw[t2 c];simp
    |fA cs off=>exact t1 cs
    |fn g caps=>show(caps.any λcs=>cs.any (Cell.touch (aK [])))=false;rw[axK];exactλc _=>by rw[t1 c];simp
    |_=>rfl
   have t4:∀c:ay,c.touch (aK [])=false:=λc=>by cases c with|var cs=>exact t1 cs|arr _ _ _ _=>rfl
   cases s with
   |mk n t o=>
    simp only[St.abm,St.mk.injEq,axe];refine⟨funext λq=>?_,funext λq=>?_⟩
    .rw[t3 (t q)]
    .show o q=(match o q with|some x=>(match x.touch (aK [])with|true=>none|false=>some x)|none=>none);cases o q with
     |none=>rfl
     |some y=>dsimp only;rw[t4 y]
 rw[hc,mg,mg];refine⟨λt=>?_,λo y hy=>?_⟩
 .dsimp only[St.kill];cases ht:((v.tmps t).kill (aK lv)).touch (aK hd)with
  |true=>exact .inl rfl
  |false=>
   dsimp only;rcases h.tmps t with e|e
   .rw[e];exact .inl rfl
   .rw[e];exact .inr (AV.sN h1 h2 _ ht)
 .dsimp only[St.kill]at hy ⊢;split at hy
  .cases hy
  .next hh=>
   split at hy
   .next x hx=>
    split at hx
    .cases hx
    .next hl=>
     cases hvo:v.ah o with
     |none=>rw[hvo]at hx;cases hx
     |some y0=>
      rw[hvo]at hx;cases hx;split at hy
      .cases hy
      .next ht=>
       cases hy;have hlp:aK lp o=false:=by
        cases hlp:aK lp o with
        |false=>rfl
        |true=>rcases h2 o hlp with g|g<;>simp_all
       rw[hlp,h.ah o _ hvo];simp only[avz,ay.sN h1 h2 _ ht]
   .cases hy
theorem akR{base:St}{D U:List Nat}{path:List dN}{L L':Nat->Bool}{i:Nat}{x:dN}(hi:i<path.length)(hL:L i=false)(hL':L' i=true)(h:∀j,j≠i->L' j=L j)
 (hf:Fits D U (pick (path.set i x) 0 L')) (hne:∀y∈pick path 0 L,y.d≠x.d) (hu:x.u≠[]->∀j y,i<j->L j=true->path[j]? =some y->y.u=[]):
 (((lD base (pick path 0 L)).adds x.u).adds x.δ).set x.d x.v=lD base (pick (path.set i x) 0 L')/\(∀o,aK (ng (pick (path.set i x) 0 L')) o=(aK (ng (pick path 0 L)) o||aK x.k o)):=by
 have hsplit:path=path.take i++path[i]::path.drop (i+1):=by rw[List.getElem_cons_drop,awm]
 have hset:path.set i x=path.take i++x::path.drop (i+1):=by rw[List.set_eq_take_append_cons_drop,if_pos hi]
 have hlen:(path.take i).length=i:=ah8;have p1:pick path 0 L=pick (path.take i) 0 L++pick (path.drop (i+1)) (i+1) L:=by
  conv=>lhs;rw[hsplit]
  rw[Oi,hlen,au8,pick,hL]
 have aoI:∀(l:List dN)(j:Nat),(∀k,k<l.length->j+k≠i)->pick l j L'=pick l j L:=by
  intro l
  induction l with
  |nil=>intros;rfl
  |cons y l ih=>intro j hj;rw[pick,pick,h j (by simpa using hj 0 abZ),ih (j+1) λk hk=>by have:=hj (k+1) (by simpa using hk);omega]
 have p2:pick (path.set i x) 0 L'=pick (path.take i) 0 L++x::pick (path.drop (i+1)) (i+1) L:=by rw[hset,Oi,hlen,au8,pick,hL',aoI (path.take i) 0 λk hk=>aaV,aoI (path.drop (i+1)) (i+1) λk hk=>aaV]
 rw[p2]at hf;rw[p1]at hne;rw[p1,p2];refine⟨?_,λo=>?_⟩
 case refine_2=>
  rw[ave,avK,nJ,nJ,sJ];constructor
  .rintro⟨y,hy,ho⟩;rcases au4.1 hy with h|h
   .exact .inl ⟨y,avp _ h,ho⟩
   .rcases auQ.1 h with rfl|h
    .exact .inr ho
    .exact .inl ⟨y,avJ _ h,ho⟩
  .rintro(⟨y,hy,ho⟩|ho)
   .rcases au4.1 hy with h|h
    .exact⟨y,avp _ h,ho⟩
    .exact⟨y,avJ _ (auM _ h),ho⟩
   .exact⟨x,abZ,ho⟩
 refine ai2 hf hne λhxu y hy=>?_;obtain⟨k,hk1,hk2⟩:=(kP _ _).1 hy;rw[avg]at hk2;exact hu hxu (i+1+k) y aaV hk1 hk2
theorem akS{base:St}{D U:List Nat}{path:List dN}{L L':Nat->Bool}{i:Nat}{x:dN}(hi:i<path.length)(hL:L i=false)(hL':L' i=true)(h:∀j,j≠i->L' j=L j)
 (hf:Fits D U (pick (path.set i x) 0 L')) (hne:∀y∈pick path 0 L,y.d≠x.d) (hu:x.u≠[]->∀j y,i<j->L j=true->path[j]? =some y->y.u=[])
 (hv:x.v.kill (aK (ng (pick (path.set i x) 0 L')))=x.v)
 (hxo:∀o y,(look x.δ o=some y\/look x.u o=some y)->aK (ng (pick (path.set i x) 0 L')) o=false/\y.kill (aK (ng (pick (path.set i x) 0 L')))=y):
 (((sH x.k (after base path L)).adds x.u).adds x.δ).set x.d x.v=after base (path.set i x) L':=by
 obtain⟨e1,e2⟩:=akR (base:=base) hi hL hL' h hf hne hu;have e3:sH x.k (after base path L)=(lD base (pick path 0 L)).kill (aK (ng (pick (path.set i x) 0 L'))):=by unfold after;rw[mg,mg];exact St.qP e2 _
 rw[e3];unfold after;rw[mg,← e1];generalize aK (ng (pick (path.set i x) 0 L'))=S at hv hxo;generalize lD base (pick path 0 L)=s;have f1:∀s:St,((s.adds x.u).adds x.δ)={s with ah:=((s.adds x.u).adds x.δ).ah}:=λs=>by rw[Ph,Ph s x.u]
 rw[f1 (s.kill S),f1 s];simp only[St.set,St.kill,St.mk.injEq,axe];refine⟨funext λt=>?_,funext λo=>?_⟩
 .cases Nat.beq t x.d with
  |true=>exact hv.symm
  |false=>rfl
 .rw[mO,mO,mO,mO];cases hδ:look x.δ o with
  |some y=>
   obtain⟨g1,g2⟩:=hxo o y (.inl hδ);simp only[g1,avz,g2]
  |none=>
   cases hu:look x.u o with
   |some y=>
    obtain⟨g1,g2⟩:=hxo o y (.inr hu);simp only[g1,avz,g2]
   |none=>rfl
theorem akT{base:St}{path:List dN}{L:Nat->Bool}(hL:∀i,L i=false):after base path L=base:=by unfold after;rw[ae0 path 0 L λi _=>hL i];rfl
theorem anu(h:Rel w0 M T γ st a w)(D:List Nat):Rel w0 M T γ (bJ D st) a w:=h.kill _
theorem ae3{D:List Nat}{o:Nat}(h:aK D (o / 64)=true):(bJ D st).ah o=none:=by simp[bJ,St.kill,h]
theorem akU{R:Reg}{path:List dN}{L:Nat->Bool}{i:Nat}(hf:Fits R.D R.U (pick path 0 L))(hsub:∀j,(R.ms.getD i 0).testBit j=true->L j=true)
 (hidx:∀k x,path[k]? =some x->idxOf R.D x.d 0=some k) (hi:L i=false) (hdown:∀k,L k=true->(R.ms.getD k 0).testBit i=false)
 (heff:DL R.ms R.E i=true->∀j x,path[j]? =some x->x.u≠[]->L j=true->(R.ms.getD i 0).testBit j=true):
 ((match DL R.ms R.E i with
   |true=>lD (bJ R.D st) (pick path 0 (R.ms.getD i 0).testBit)
   |false=>(lD (bJ R.D st) (pick path 0 (R.ms.getD i 0).testBit)).hide R.U).veil R i).more (lD (bJ R.D st) (pick path 0 L)):=by
 have hmem:∀x∈pick path 0 (R.ms.getD i 0).testBit,x∈pick path 0 L:=λx hx=>by obtain⟨j,h1,h2⟩:=(kP _ _).1 hx;rw[au8]at h1;exact(kP _ _).2 ⟨j,by rw[au8];exact hsub j h1,h2⟩
 have ht:∀t,ZI R i t=false->yh (pick path 0 L) t ((bJ R.D st).tmps t)=yh (pick path 0 (R.ms.getD i 0).testBit) t ((bJ R.D st).tmps t):=by
  intro t hh;by_cases he:∃x∈pick path 0 (R.ms.getD i 0).testBit,x.d=t
  .obtain⟨x,hx,rfl⟩:=he;rw[Nl _ hx λy hy e=>hf.one x (hmem x hx) y (hmem y hy) e,Nl _ (hmem x hx) λy hy e=>hf.one x (hmem x hx) y hy e]
  .rw[Ri (pick path 0 (R.ms.getD i 0).testBit) λx hx e=>he ⟨x,hx,e⟩];refine Ri _ λx hx e=>?_;obtain⟨k,h1,h2⟩:=(kP _ _).1 hx;rw[au8]at h1;have hk:=hidx k x h2;rw[e]at hk;unfold ZI at hh;rw[hk]at hh;simp only[Bool.not_eq_false',avK]at hh;rcases hh with g|g|g
   .have:=auG g;subst this;rw[hi]at h1;cases h1
   .exact he ⟨x,(kP _ _).2 ⟨k,by rw[au8];exact g,h2⟩,e⟩
   .rw[hdown k h1]at g;cases g
 have hO:∀o y,lookO (pick path 0 (R.ms.getD i 0).testBit) o ((bJ R.D st).ah o)=some y->lookO (pick path 0 L) o ((bJ R.D st).ah o)=some y:=by
  intro o y hy;by_cases he:∃x∈pick path 0 (R.ms.getD i 0).testBit,∃z,look x.δ o=some z
  .obtain⟨x,hx,z,hz⟩:=he;have aoJ:∀w∈pick path 0 L,∀z',look w.δ o=some z'->x=w:=λw hw z' hz'=>
    hf.one x (hmem x hx) w hw ((sK (hf.new x (hmem x hx)) hz).symm.trans (sK (hf.new w hw) hz'))
   rw[VH _ hx hz λw hw z' hz'=>aoJ w (hmem w hw) z' hz']at hy;rw[VH _ (hmem x hx) hz aoJ];exact hy
  .have hno:∀x∈pick path 0 (R.ms.getD i 0).testBit,look x.δ o=none:=λx hx=>by
    cases hl:look x.δ o with
    |none=>rfl
    |some z=>exact(he ⟨x,hx,z,hl⟩).elim
   rw[JH _ hno]at hy;rw[JH,hy];intro x hx;cases hl:look x.δ o with
   |none=>rfl
   |some z=>rw[ae3 (by rw[sK (hf.new x hx) hl];exact hf.mem x hx)]at hy;cases hy
 have hsame:∀o y,nI (pick path 0 (R.ms.getD i 0).testBit) o=nI (pick path 0 L) o->(lD (bJ R.D st) (pick path 0 (R.ms.getD i 0).testBit)).ah o=some y->(lD (bJ R.D st) (pick path 0 L)).ah o=some y:=by
  intro o y he hy;unfold lD at hy ⊢;dsimp only at hy ⊢;rw[he]at hy;split at hy
  .next z hz=>exact hy
  .next hz=>exact hO o y hy
 have aoK:∀s:St,(∀t,s.tmps t=yh (pick path 0 (R.ms.getD i 0).testBit) t ((bJ R.D st).tmps t))->(∀o y,s.ah o=some y->(lD (bJ R.D st) (pick path 0 L)).ah o=some y)->(s.veil R i).more (lD (bJ R.D st) (pick path 0 L)):=by
  intro s h1 h2;refine⟨λt=>?_,h2⟩;show(match ZI R i t with|true=>AV.undef|false=>s.tmps t)=.undef\/_=(match ZI R i t with|true=>AV.undef|false=>s.tmps t);cases hh:ZI R i t with
  |true=>exact .inl rfl
  |false=>right;dsimp only;rw[h1 t];exact ht t hh
 split
 .next hc=>
  refine aoK _ (λt=>rfl) λo y hy=>hsame o y ?_ hy;refine YP path 0 λj x hj hu=>?_;rw[au8];cases hL:L j with
  |true=>exact heff hc j x hj hu hL
  |false=>
   cases hm:(R.ms.getD i 0).testBit j with
   |false=>rfl
   |true=>rw[hsub j hm]at hL;cases hL
 .next hc=>
  refine aoK _ (λt=>rfl) λo y hy=>?_;unfold St.hide at hy;dsimp only at hy;split at hy
  .cases hy
  .next hU=>
   refine hsame o y ?_ hy;have nou:∀x∈pick path 0 L,look x.u o=none:=λx hx=>by
    cases hl:look x.u o with
    |none=>rfl
    |some z=>have:=(hf.upd x hx o z hl).1;rw[hU]at this;cases this
   rw[CG _ nou,CG _ λx hx=>nou x (hmem x hx)]
theorem amc(st:St)(U:List Nat)(S:Nat->Bool):(st.kill S).hide U=(st.hide U).kill S:=by
 simp only[St.hide,St.kill,St.mk.injEq,axe]
 funext o
 cases aK U o<;>cases S o<;>rfl
theorem ae4(st:St)(R:Reg)(i:Nat)(S:Nat->Bool):(st.kill S).veil R i=(st.veil R i).kill S:=by
 simp only[St.veil,St.kill,St.mk.injEq,axe,axR]
 funext t
 cases ZI R i t<;>rfl
theorem aho{ms:List Nat}{i e q:Nat}(PL:e≠i)(h1:(ms.getD i 0).testBit e=false)(h2:(ms.getD e 0).testBit i=false):∀(A:List (Nat×Nat)),Hf A e q=true->aK (ady ms i A) q=true
 |[],h=>afH
 |(e',q')::r,h=>by
  rw[Hf]at h;rw[ady];cases hb:Nat.beq e' e&&Nat.beq q' q with
  |true=>
   rw[auC]at hb;rw[auG hb.1,auG hb.2,h1,h2,Ag PL];simp[aK,avr]
  |false=>
   rw[hb]at h;have ih:=aho PL h1 h2 r h;split
   .exact ih
   .rw[aK,ih];split<;>rfl
theorem ai3{R:Reg}{path:List dN}{L:Nat->Bool}{i:Nat}(hf:Fits R.D R.U (pick path 0 L))(hsub:∀j,(R.ms.getD i 0).testBit j=true->L j=true)
 (hidx:∀k x,path[k]? =some x->idxOf R.D x.d 0=some k) (hi:L i=false) (hdown:∀k,L k=true->(R.ms.getD k 0).testBit i=false)
 (heff:DL R.ms R.E i=true->∀j x,path[j]? =some x->x.u≠[]->L j=true->(R.ms.getD i 0).testBit j=true)
 (hk:∀e x,path[e]? =some x->L e=true->∀q∈x.k,Hf R.A e q=true):
 (viewAt R (bJ R.D st) path i).more (after (bJ R.D st) path L):=by
 have h0:=akU (st:=st) hf hsub hidx hi hdown heff;have e:viewAt R (bJ R.D st) path i=(sH (ng (pick path 0 (R.ms.getD i 0).testBit)) ((match DL R.ms R.E i with
  |true=>lD (bJ R.D st) (pick path 0 (R.ms.getD i 0).testBit)
  |false=>(lD (bJ R.D st) (pick path 0 (R.ms.getD i 0).testBit)).hide R.U).veil R i)).abm (ady R.ms i R.A):=by
  unfold viewAt after;rw[mg,mg];cases DL R.ms R.E i
  .dsimp only;rw[amc,ae4]
  .dsimp only;rw[ae4]
 rw[e];refine akQ h0 (λo ho=>?_) λo ho=>?_
 .obtain⟨x,hx,hxo⟩:=(nJ _).1 ho;obtain⟨j,h1,h2⟩:=(kP _ _).1 hx;rw[au8]at h1;exact(nJ _).2 ⟨x,(kP _ _).2 ⟨j,by rw[au8];exact hsub j h1,h2⟩,hxo⟩
 .obtain⟨x,hx,hxo⟩:=(nJ _).1 ho;obtain⟨j,h1,h2⟩:=(kP _ _).1 hx;rw[au8]at h1;cases hb:(R.ms.getD i 0).testBit j with
  |true=>exact .inl ((nJ _).2 ⟨x,(kP _ _).2 ⟨j,by rw[au8];exact hb,h2⟩,hxo⟩)
  |false=>exact .inr (aho (λe=>by subst e;rw[hi]at h1;cases h1) hb (hdown j h1) R.A (hk j x h2 h1 o hxo))
theorem ae5:∀(l:List Nat)(j i d:Nat),nodup l=true->l[i]? =some d->idxOf l d j=some (j+i)
 |[],_,_,_,_,h=>amd
 |x::r,j,0,d,_,h=>by
  simp at h;subst h;rw[idxOf,avr];rfl
 |x::r,j,i+1,d,hn,h=>by
  rw[nodup,auC]at hn;have hne:Nat.beq d x=false:=by
   cases hb:Nat.beq d x with
   |false=>rfl
   |true=>have hx:=auG hb;subst hx;have:aK r d=true:=sJ.2 (avk acs);rw[this]at hn;simp at hn
  rw[idxOf,hne,show j+(i+1)=j+1+i from aaV];exact ae5 r (j+1) i d hn.2 acs
end Go.Fw
namespace Go.Fw
open Go
variable {P:Program} {w0:World} {M:Nat->Prop} {T:Ext} {γ γ':Nat->Value} {st s:St} {a:Act} {w w':World} {Θ:jm} {Γ:kM}
theorem Cell.yZ{S:Nat->Bool}(h:∀o,S o=false):∀(c:Cell),c.kill S=c
 |.ref o=>by simp only[Cell.kill,h o]
 |.int _ _|.bool _|.str _|.nil|.sl _ _ _ _|.junk=>rfl
theorem Ei{S:Nat->Bool}(h:∀o,S o=false)(cs:List Cell):cs.map (Cell.kill S)=cs:=by rw[show Cell.kill S=id from funext (Cell.yZ h),axm]
theorem SV.yZ{S:Nat->Bool}(h:∀o,S o=false):∀(c:SV),c.kill S=c
 |.one c=>by simp only[SV.kill,Cell.yZ h]
 |.agg cs=>by simp only[SV.kill,Ei h]
theorem AV.yZ{S:Nat->Bool}(h:∀o,S o=false):∀(c:AV),c.kill S=c
 |.undef=>rfl
 |.sv v=>by simp only[AV.kill,SV.yZ h]
 |.mD vs=>by simp only[AV.kill];rw[show SV.kill S=id from funext (SV.yZ h),axm]
 |.bK o off=>aoG
 |.nR o i off=>aoG
 |.win o i off=>aoG
 |.pW _ _ _ _=>rfl
 |.fA cs off=>by simp only[AV.kill,Ei h]
 |.fn f caps=>by simp only[AV.kill];rw[show List.map (Cell.kill S)=id from funext (Ei h),axm]
theorem ay.yZ{S:Nat->Bool}(h:∀o,S o=false):∀(c:ay),c.kill S=c
 |.var cs=>by simp only[ay.kill,Ei h]
 |.arr _ _ _ _=>rfl
theorem St.yZ{S:Nat->Bool}(h:∀o,S o=false)(st:St):st.kill S=st:=by
 unfold St.kill;rw[show(λt=>(st.tmps t).kill S)=st.tmps from funext λt=>AV.yZ h _];have:(λo=>match S o with|true=>none|false=>(st.ah o).map (ay.kill S))=st.ah:=by
  funext o
  rw[h o,show ay.kill S=id from funext (ay.yZ h)];cases st.ah o<;>rfl
 exact congrArg (λf=>({n:=st.n,tmps:=st.tmps,ah:=f}:St)) this
theorem akV:∀(c:Cell),c.refs=[]->c.view s=c.view st
 |.int _ _,_|.bool _,_|.str _,_|.nil,_|.sl _ _ _ _,_|.junk,_=>rfl
theorem YS:∀(cs:List Cell),cs.flatMap Cell.refs=[]->cs.map (Cell.view s)=cs.map (Cell.view st)
 |[],_=>rfl
 |c::cs,h=>by rw[avL,avs]at h;rw[auX,auX,akV c h.1,YS cs h.2]
theorem VJ(h:st.more s){m:Mode}{x:AV}{r:Arg×Option Nat}(hr:o9 st m x=some r):o9 s m x=some r:=by
 unfold o9 at hr ⊢;cases m with
 |val=>
  dsimp only at hr ⊢;split at hr
  .next a hx ha=>rw[hx,Au h _ _ ha];exact hr
  .cases hr
 |own=>
  dsimp only at hr ⊢;split at hr
  .split at hr
   .next ho=>rw[h.ah _ _ ho];exact hr
   .cases hr
  .cases hr
 |ptr=>
  dsimp only at hr ⊢;split at hr
  .split at hr
   .next hb ho=>
    split at hr
    .next hn=>rw[hb,h.ah _ _ ho];dsimp only;rw[hn,YS (s:=s) (st:=st) _ hn];exact hr
    .cases hr
   .cases hr
  .cases hr
theorem Uf{m:Mode}{x:AV}{r:Arg×Option Nat}(hr:o9 st m x=some r):x≠ .undef:=by rintro rfl;cases m<;>simp[o9,oO]at hr
theorem FQ(h:st.more s):∀(os:List (Option Nat))(aC:List Eff)(δ:List (Nat×ay)),nH st os aC=some δ->nH s os aC=some δ
 |[],_,_,hb=>by unfold nH at hb ⊢;exact hb
 |none::os,aC,δ,hb=>by rw[nH]at hb ⊢;exact FQ h os _ δ hb
 |some o::os,aC,δ,hb=>by
  unfold nH at hb ⊢;split at hb
  .next h1 h2=>rw[h1,FQ h _ _ _ h2];dsimp only;exact hb
  .next h1 h2 h3=>rw[h1,h.ah _ _ h2,FQ h _ _ _ h3];dsimp only;exact hb
  .next h1 h2 h3=>rw[h1,h.ah _ _ h2,FQ h _ _ _ h3];dsimp only;exact hb
  .cases hb
theorem Oj:∀(os:List (Option Nat))(aC:List Eff),PI os aC=true->∀p,iL os aC p=false
 |[],_,_,_=>rfl
 |none::os,aC,h,p=>by rw[PI]at h;rw[iL];exact Oj os _ h p
 |some o::os,aC,h,p=>by
  unfold PI at h;unfold iL;split at h
  .next cs he=>rw[he];exact Oj os _ h p
  .cases h
theorem afQ(h:st.more s){m:Mode}{x:AV}{r:Arg×Option Nat}(hr:rH st m x=some r):rH s m x=some r:=by
 cases m with
 |val=>
  simp only[rH]at hr ⊢;split at hr
  .next a ha=>rw[Au h _ _ ha];exact hr
  .cases hr
 |own=>exact VJ h (m:=.own) hr
 |ptr=>exact VJ h (m:=.ptr) hr
theorem adz{m:Mode}{x:AV}{r:Arg×Option Nat}(hr:rH st m x=some r):x≠ .undef:=by
 cases m with
 |val=>rintro rfl;simp[rH,oO]at hr
 |own=>exact Uf (m:=.own) hr
 |ptr=>exact Uf (m:=.ptr) hr
theorem YT(h:st.more s):∀(ms:List Mode)(xs:List AV)(r:List Arg×List (Option Nat)),wU st ms xs=some r->wU s ms xs=some r
 |_,[],r,hr=>by unfold wU at hr ⊢;exact hr
 |ms,x::xs,r,hr=>by
  unfold wU at hr ⊢;split at hr
  .next h1 h2=>rw[afQ h h1,YT h _ _ _ h2];exact hr
  .cases hr
theorem VK:∀(ms:List Mode)(xs:List AV)(r:List Arg×List (Option Nat)),wU st ms xs=some r->∀x∈xs,x≠ .undef
 |_,[],_,_,x,hx=>aeZ
 |ms,x::xs,r,hr,y,hy=>by
  unfold wU at hr;split at hr
  .next h1 h2=>
   rcases auQ.1 hy with rfl|hy
   .exact adz h1
   .exact VK _ _ _ h2 y hy
  .cases hr
theorem akW{xs:List AV}(h:Fv xs=true):vT xs=[]:=by
 unfold Fv at h;split at h
 .next h0=>exact h0
 .cases h
theorem Ai:∀(ms:List Mode)(xs:List AV)(r:List Arg×List (Option Nat)),vT (Dz ms xs)=[]->wU st ms xs=some r->hands st ms xs=some r
 |_,[],r,_,hr=>by unfold wU at hr;unfold hands;exact hr
 |ms,x::xs,r,hn,hr=>by
  unfold wU at hr;split at hr
  .next a o as os h1 h2=>
   have key:hands st ms.tail xs=some (as,os)/\o9 st (ms.headD .val) x=some (a,o):=by
    cases ms with
    |nil=>
     have hn':x.refs++vT xs=[]:=hn;rw[avs]at hn';refine⟨Ai [] xs _ (by cases xs<;>exact hn'.2) h2,?_⟩;have h1:rH st .val x=some (a,o):=h1;simp only[rH]at h1;show o9 st .val x=_;simp only[o9,hn'.1];split at h1
     .next b hb=>rw[hb];exact h1
     .cases h1
    |cons m ms=>
     cases m with
     |val=>
      have hn':x.refs++vT (Dz ms xs)=[]:=hn;rw[avs]at hn';refine⟨Ai ms xs _ hn'.2 h2,?_⟩;have h1:rH st .val x=some (a,o):=h1;simp only[rH]at h1;show o9 st .val x=_;simp only[o9,hn'.1];split at h1
      .next b hb=>rw[hb];exact h1
      .cases h1
     |own=>exact⟨Ai ms xs _ hn h2,h1⟩
     |ptr=>exact⟨Ai ms xs _ hn h2,h1⟩
   unfold hands;rw[key.1,key.2];exact hr
  .cases hr
theorem afR{m:Mode}{x:AV}{a:Arg}{o:Option Nat}(h:rH st m x=some (a,o)):EO false st x a o:=by
 have weak:EO true st x a o->EO false st x a o:=λh=>h.imp (λ⟨h1,_,h3⟩=>⟨h1,(λe=>ahb),h3⟩) id;cases m with
 |val=>
  simp only[rH]at h;split at h
  .next b hb=>cases h;exact .inl ⟨rfl,(λe=>ahb),hb⟩
  .cases h
 |own=>exact weak (KG (m:=.own) h)
 |ptr=>exact weak (KG (m:=.ptr) h)
theorem YU:∀(ms:List Mode)(xs:List AV)(as:List Arg)(os:List (Option Nat)),wU st ms xs=some (as,os)->qM false st xs as os
 |_,[],as,os,h=>by unfold wU at h;cases h;trivial
 |ms,x::xs,as,os,h=>by
  unfold wU at h;split at h
  .next a o as' os' h1 h2=>cases h;exact⟨afR h1,YU ms.tail xs as' os' h2⟩
  .cases h
theorem ahp{G:jT}(hE:ru P G Θ Γ w0 M)(h:Rel w0 M T γ s a w)(hm:st.more s)(o:Oper){D U:List Nat}{d:Nat}{p:Prop}{ρ:Ja}{os:List (Option Nat)×Bool}
 (hc:PG Γ st o.op=some (p,ρ,os)) (hp:p) (hd:∀q,q / 64=d->s.ah q=none) (hch:∀t,ρ.R t->∃r,FP D U d st os (ρ.out t) (ρ.aC t)=some r) {next:Act->World->Prop} {Q:Exit->Act->World->Prop}
 (hn:∀t v υ δ u γ' w',ρ.R t->FP D U d st os (ρ.out t) (ρ.aC t)=some (v,υ,δ)->Rel w0 M T γ' ((s.adds υ).adds δ) a w'->aP (aj w0 T γ' ((s.adds υ).adds δ) w') v u->next (a.put o.dst u) w'):o.wp P a w next Q:=by
 unfold PG at hc;split at hc
 case h_2=>cases hc
 next f args pI hop=>
 split at hc
 case h_2=>cases hc
 next ms con hcon=>
 split at hc
 case h_2=>cases hc
 next vs os' Vt=>
 split at hc
 case h_2=>cases hc
 next hno=>
 split at hc
 case h_2=>cases hc
 next q ρ' hq=>
 cases hc;have hand:handed s args.toList []=handed st args.toList []:=Og hm [] _ (VK _ _ _ Vt);have adA:=YT hm _ _ _ Vt;rw[← hand]at adA hno hch hn;obtain⟨hok,hcall⟩:=hE.agm f ms con hcon;have hv:aP (aj w0 T γ s w) (.fn f []) (a.eval (.func f)):=iW h (.func f);obtain⟨us,hvx,hkx⟩:=hv;unfold Oper.wp;rw[MW hop hvx hcall,axz];have hxs:ou (aj w0 T γ s w) (handed s args.toList []) (args.map a.eval++us).toList:=by rw[awQ,awO];exact FI h hkx args.toList
 have hk:(d*64+1)%64=1:=aaV;have hspec:∀t,ρ.R t->∃υ,yR os'=true/\Iu (ρ.aC t) ((ρ.out t).take (d*64+1)).2=true/\nH s os' (ρ.aC t)=some υ/\s.kill (iL os' (ρ.aC t))=s/\jH s ((ρ.out t).take (d*64+1)).2=true/\
  (!(!(Fv (Dz ms (handed s args.toList []))))||((ρ.out t).made&&KH (ρ.aC t)))=true/\
  FP D U d st (os',!(Fv (Dz ms (handed s args.toList [])))) (ρ.out t) (ρ.aC t)=some (((ρ.out t).take (d*64+1)).1,υ,((ρ.out t).take (d*64+1)).2):=by
  intro t ht;obtain⟨r,hr⟩:=hch t ht;have hr0:=hr;unfold FP at hr;split at hr
  .next υ hnd hb=>
   rw[auC,auC,auC,auC]at hnd;split at hr
   .cases hr;refine⟨υ,hnd.1,hnd.2.1,FQ hm _ _ _ hb,St.yZ (Oj _ _ hnd.2.2.1) s,?_,hnd.2.2.2.2,hr0⟩;refine auY.2 λz hz=>?_;rw[hd z.1 (auG (auY.1 hnd.2.2.2.1 z hz))];rfl
   .cases hr
  .cases hr
 have hpre:∀t,ρ.R t->∃δ,nH s os' (ρ.aC t)=some δ/\jH (s.kill (iL os' (ρ.aC t))) ((ρ.out t).take (d*64+1)).2=true/\Iu (ρ.aC t) ((ρ.out t).take (d*64+1)).2=true:=λt ht=>by obtain⟨υ,_,g1,g2,g3,g4,_,_⟩:=hspec t ht;exact⟨υ,g2,by rw[g3];exact g4,g1⟩
 obtain⟨t0,ht0⟩:=(hok vs _ ρ hq hp).1;obtain⟨_,hnd,_⟩:=hspec t0 ht0;have ap7:Calls P f (args.map a.eval++us) w λe w'=>∃t δ,ρ.R t/\nH s os' (ρ.aC t)=some δ/\∃v γ',e=.returned v/\
  Rel w0 M T γ' (((s.kill (iL os' (ρ.aC t))).adds δ).adds ((ρ.out t).take (d*64+1)).2) a w'/\aP (aj w0 T γ' (((s.kill (iL os' (ρ.aC t))).adds δ).adds ((ρ.out t).take (d*64+1)).2) w') ((ρ.out t).take (d*64+1)).1 v:=by
  cases hnr:Fv (Dz ms (handed s args.toList []))with
  |true=>exact h.ajy hE hxs (QX ms _ vs os' (Ai ms _ _ (akW hnr) adA)) hnd hk hok hq hp hpre
  |false=>
   rw[hnr]at hno;refine h.ag1 hE hxs (YU ms _ vs os' adA) hnd hk hok hq hp (λq e r l he=>?_) (λt ht=>?_) hpre
   .unfold dn at he;split at he
    .next e' r' l' hb=>have:=auY.1 hno _ (avk hb);cases this
    .split at he<;>cases he
    .cases he
   .obtain⟨_,_,_,_,_,_,g,_⟩:=hspec t ht;rw[hnr]at g;simpa using g
 refine ap7.mono ?_;rintro e w' ⟨t,δ,ht,hb,u,γ',rfl,g1,g2⟩;obtain⟨υ,_,_,k2,k3,_,_,k5⟩:=hspec t ht;have hδ:υ=δ:=Option.some.inj (k2.symm.trans hb);subst hδ;rw[k3]at g1 g2;exact hn t _ _ _ u γ' w' ht k5 g1 g2
theorem BL{ops:Array Oper}{listed:Array Bool}{i:Nat}:i∈Region.ready .any ops listed↔
 ∃o,ops[i]? =some o/\listed.getD i true=false/\∀e∈o.after,Region.binds .any e=true->listed.getD e.on false=true:=by
 rw[mem_ready];constructor
 .rintro⟨h1,o,h2,h3⟩;exact⟨o,h2,h1,h3⟩
 .rintro⟨o,h2,h1,h3⟩;exact⟨h1,o,h2,h3⟩
theorem ER{listed:Array Bool}{i:Nat}(hi:i<listed.size):listed.getD i true=listed.getD i false:=by simp[Array.getD,hi]
theorem apd(d:Nat):(d*64+1) / 64=d:=aaV
theorem ae6{o:Op}(h:yV o=true):yj Γ o=true:=by
 unfold yV at h;split at h
 .rfl
 .cases h
theorem Rel.ap8(h:Rel w0 M T γ st a w)(d:Nat)(hd:st.n<=d)(v:AV)(hv:v=.mD []):Rel w0 M T γ (st.set d v) (a.put none undef) w:=by
 refine⟨h.mT,h.defers,h.size,h.os,h.tape,h.output,h.grow,h.kept,λt=>?_,h.ah,h.lt,h.sep,h.pin⟩;show aP _ (match Nat.beq t d with|true=>v|false=>st.tmps t) (a.tmps.getD t undef);cases hb:Nat.beq t d with
 |false=>exact h.tmps t
 |true=>
  have e:=auG hb;have hs:=h.size;have:a.tmps.getD t undef=undef:=by simp[Array.getD,show ¬t<a.tmps.size from aaV]
  rw[this,hv];exact⟨#[],rfl,trivial⟩
theorem adB{G:jT}(hE:ru P G Θ Γ w0 M){s:St}(h:Rel w0 M T γ s a w)(hm:st.more s)(o:Oper){υ:List (Nat×ay)}(hc:KQ Θ st o.op=some υ){next:Act->World->Prop}{Q:Exit->Act->World->Prop}
 (hn:∀γ' w',Rel w0 M T γ' ((s.adds υ).adds []) a w'->next (a.put o.dst undef) w'):o.wp P a w next Q:=by
 unfold KQ at hc;split at hc
 case h_2=>cases hc
 next t p x hop=>
 split at hc
 case h_2=>cases hc
 next v ti q off hv ht hp=>
 split at hc
 case h_2=>cases hc
 next cs hlen ho=>
 split at hc
 case h_2=>cases hc
 next QV=>
 cases hc;have hs:store s (.bK q off) v=some (True,s.add q (.var (splice cs off v.cells))):=by unfold store;simp only[hm.ah q _ ho,QV]
 have hpv:=iW h p;rw[bG hm hp abZ]at hpv;have hxv:=iW h x;rw[bG hm hv abZ]at hxv;obtain⟨w',h1,h2⟩:=aeM hE.types h ht hs trivial hpv hxv (auG hlen);exact Oper.wp_skip (w':=w') (by simp[execOp,hop,h1]) (hn γ w' h2)
theorem Cell.lU{S:Nat->Bool}(st:St):∀(c:Cell),c.kill S=c->c.freeze st S=c
 |.ref o,h=>by
  simp only[Cell.kill]at h;simp only[Cell.freeze];cases hs:S o with
  |true=>rw[hs]at h;cases h
  |false=>rfl
 |.int _ _,_|.bool _,_|.str _,_|.nil,_|.sl _ _ _ _,_|.junk,_=>rfl
theorem oV{S:Nat->Bool}(st:St):∀(cs:List Cell),cs.map (Cell.kill S)=cs->cs.map (Cell.freeze st S)=cs
 |[],_=>rfl
 |c::cs,h=>by rw[auX,List.cons.injEq]at h;rw[auX,Cell.lU st c h.1,oV st cs h.2]
theorem SV.lU{S:Nat->Bool}(st:St):∀(c:SV),c.kill S=c->c.freeze st S=c
 |.one c,h=>by
  simp only[SV.kill,SV.one.injEq]at h;simp only[SV.freeze,Cell.lU st c h]
 |.agg cs,h=>by simp only[SV.kill,SV.agg.injEq]at h;simp only[SV.freeze,oV st cs h]
theorem IE{S:Nat->Bool}(st:St):∀(cs:List SV),cs.map (SV.kill S)=cs->cs.map (SV.freeze st S)=cs
 |[],_=>rfl
 |c::cs,h=>by rw[auX,List.cons.injEq]at h;rw[auX,SV.lU st c h.1,IE st cs h.2]
theorem GR{S:Nat->Bool}(st:St):∀(l:List (List Cell)),l.map (List.map (Cell.kill S))=l->l.map (List.map (Cell.freeze st S))=l
 |[],_=>rfl
 |c::cs,h=>by rw[auX,List.cons.injEq]at h;rw[auX,oV st c h.1,GR st cs h.2]
theorem AV.lU{S:Nat->Bool}(st:St):∀(c:AV),c.kill S=c->c.freeze st S=c
 |.undef,_=>rfl
 |.sv v,h=>by
  simp only[AV.kill,AV.sv.injEq]at h;simp only[AV.freeze,SV.lU st v h]
 |.mD vs,h=>by
  simp only[AV.kill,AV.mD.injEq]at h;simp only[AV.freeze,IE st vs h]
 |.bK o off,h=>by
  simp only[AV.kill]at h;simp only[AV.freeze];cases hs:S o with
  |true=>rw[hs]at h;cases h
  |false=>rfl
 |.nR o i off,h=>by
  simp only[AV.kill]at h;simp only[AV.freeze];cases hs:S o with
  |true=>rw[hs]at h;cases h
  |false=>rfl
 |.win o i off,h=>by
  simp only[AV.kill]at h;simp only[AV.freeze];cases hs:S o with
  |true=>rw[hs]at h;cases h
  |false=>rfl
 |.pW _ _ _ _,_=>rfl
 |.fA cs off,h=>by
  simp only[AV.kill,AV.fA.injEq]at h;simp only[AV.freeze,oV st cs h.1]
 |.fn f caps,h=>by simp only[AV.kill,AV.fn.injEq]at h;simp only[AV.freeze,GR st caps h.2]
theorem ay.lU{S:Nat->Bool}(st:St):∀(c:ay),c.kill S=c->c.freeze st S=c
 |.var cs,h=>by
  simp only[ay.kill,ay.var.injEq]at h;simp only[ay.freeze,oV st cs h]
 |.arr _ _ _ _,_=>rfl
theorem anv{s:St}{γ0:Nat->Value}{w1:World}{a1:Act}(h0:Rel w0 M T γ0 s a1 w1){q:Nat}(hq:s.ah q=none){e:TypeId}{r:au}{l:List r.den}{fr:Bool}{u:Value}
 (h:Rel w0 M T γ (s.adds [(q,.arr e r l fr)]) a w) (hv:aP (aj w0 T γ (s.adds [(q,.arr e r l fr)]) w) (.sv (.one (.ref q))) u):
 Rel w0 M T γ s a w/\aP (aj w0 T γ s w) (.sv (.one (.sl e r l fr))) u:=by
 have hS:∀o,Nat.beq q o=true->s.ah o=none:=λo ho=>by rw[← auG ho];exact hq
 have oQ:(s.adds [(q,.arr e r l fr)]).ah q=some (.arr e r l fr):=by show(match Nat.beq q q with|true=>some _|false=>_)=_;rw[avr]
 have hne:∀o,Nat.beq q o=false->(s.adds [(q,.arr e r l fr)]).ah o=s.ah o:=λo ho=>by
  show(match Nat.beq o q with|true=>some _|false=>_)=_;cases hb:Nat.beq o q with
  |false=>rfl
  |true=>rw[auG hb,avr]at ho;cases ho
 have hs:(s.adds [(q,.arr e r l fr)]).freeze (Nat.beq q)=s:=by
  have ht:((s.adds [(q,.arr e r l fr)]).freeze (Nat.beq q)).tmps=s.tmps:=by
   funext t
   exact AV.lU _ _ (AV.uz hS _ _ (h0.tmps t))
  have ho:((s.adds [(q,.arr e r l fr)]).freeze (Nat.beq q)).ah=s.ah:=by
   funext o
   simp only[St.freeze];cases hb:Nat.beq q o with
   |true=>simp only[hS o hb]
   |false=>
    simp only[hne o hb];cases hx:s.ah o with
    |none=>rfl
    |some x=>simp only[avz,ay.lU _ x (ay.uz hS x (h0.ah o x hx))]
  show(⟨s.n,((s.adds [(q,.arr e r l fr)]).freeze (Nat.beq q)).tmps,((s.adds [(q,.arr e r l fr)]).freeze (Nat.beq q)).ah⟩:St)=⟨s.n,s.tmps,s.ah⟩;rw[ht,ho]
 have h1:=h.freeze (S:=Nat.beq q);have h2:=aP.freeze (S:=Nat.beq q) h _ _ hv;rw[hs]at h1 h2;refine⟨h1,?_⟩;simp only[AV.freeze,SV.freeze,Cell.freeze,avr,oQ]at h2;exact h2
structure Way(R:Reg)(ops:Array Oper)(t0:Nat)(path:List dN):Prop where
 len:path.length=t0
 dst:∀(i:Nat)(o:Oper)(x:dN),ops[i]? =some o->path[i]? =some x->rU R.n i o=some x.d
 anw:∀x∈path,aK R.D x.d=true
 apart:∀(i j:Nat)(x y:dN),path[i]? =some x->path[j]? =some y->x.d=y.d->i=j
 idx:∀(i:Nat)(x:dN),path[i]? =some x->idxOf R.D x.d 0=some i
theorem rD.fit{R:Reg}{base:St}{path:List dN}{i:Nat}{o:Oper}{x:dN}(h:rD Θ Γ R base path i o x):
 CB x.d x.δ=true/\(∀q y,look x.u q=some y->aK R.U q=true/\aK R.D (q / 64)=false)/\(x.u≠[]->yj Γ o.op=true)/\∀q∈x.k,Hf R.A i q=true/\aK R.D (q / 64)=true:=by
 obtain⟨_,_,h3⟩:=h;rcases h3 with⟨_,⟨_,_,p,v,δ,_,_,hn,hx⟩|⟨_,_,p,q,y,_,_,⟨h1,h2,h3⟩,hx⟩|⟨he,_,υ,_,hin,hx⟩|⟨⟨he,_⟩,hk,p,ρ,os,t,_,_,_,_,hres⟩⟩|⟨_,hx⟩
 .obtain⟨l1,l2,l3,l4⟩:=pJ R.F ⟨x.d,v,[],δ,[]⟩;rw[← hx]at l2 l3 l4;exact⟨auY.2 λy hy=>auY.1 hn y (l4 y hy),(λq y hy=>by rw[l2]at hy;cases hy),(λhne=>(hne l2).elim),λq hq=>by rw[l3]at hq;cases hq⟩
 .obtain⟨l1,l2,l3,l4⟩:=pJ R.F ⟨x.d,.sv (.one (.ref (x.d*64+1))),[],[(x.d*64+1,y)],[q]⟩;rw[← hx]at l2 l3 l4;refine⟨auY.2 λz hz=>?_,(λq y hy=>by rw[l2]at hy;cases hy),(λhne=>(hne l2).elim),λr hr=>?_⟩
  .have:=l4 z hz;have:z=(x.d*64+1,y):=by simpa using this
   rw[this];show Nat.beq ((x.d*64+1) / 64) x.d=true;rw[show(x.d*64+1) / 64=x.d from aaV,avr]
  .rw[l3]at hr;have:r=q:=by simpa using hr
   rw[this];exact⟨h3,h1⟩
 .rw[hx];refine⟨rfl,λq y hy=>?_,(λ_=>he),λq hq=>by cases hq⟩;have:=auY.1 hin _ (xH _ _ _ hy);simpa using this
 .unfold FP at hres;split at hres
  .next υ hnd hb=>
   simp only[auC]at hnd;split at hres
   .next hall=>simp only[Option.some.injEq,Prod.mk.injEq]at hres;obtain⟨_,e2,e3⟩:=hres;refine⟨by rw[← e3];exact hnd.2.2.2.1,λq y hy=>?_,(λ_=>he),λq hq=>by rw[hk]at hq;cases hq⟩;rw[← e2]at hy;have:=auY.1 hall _ (xH _ _ _ hy);simpa using this
   .cases hres
  .cases hres
 .rw[hx];exact⟨rfl,(λq y hy=>arZ),(λhne=>(hne rfl).elim),λq hq=>by cases hq⟩
theorem abo:∀(l:List Oper)(i j:Nat)(o:Oper),l[j]? =some o->yj Γ o.op=true->i+j∈PE Γ i l
 |[],_,_,_,h,_=>amd
 |x::r,i,0,o,h,he=>by
  simp at h;subst h;rw[PE,he];simp
 |x::r,i,j+1,o,h,he=>by
  have:=abo r (i+1) j o acs he;rw[show i+1+j=i+(j+1)from aaV]at this;rw[PE];cases yj Γ x.op
  .exact this
  .exact auM _ this
theorem Way.fits{R:Reg}{ops:Array Oper}{t0:Nat}{path:List dN}{L:Nat->Bool}{base:St}(W:Way R ops t0 path)(hle:t0<=ops.size)
 (hok:∀j o x,ops[j]? =some o->path[j]? =some x->L j=true->rD Θ Γ R base path j o x):Fits R.D R.U (pick path 0 L):=by
 have get:∀x∈pick path 0 L,∃j o,L j=true/\path[j]? =some x/\ops[j]? =some o:=λx hx=>by obtain⟨j,h1,h2⟩:=(kP _ _).1 hx;rw[au8]at h1;obtain⟨hj,_⟩:=auT.1 h2;have hlen:=W.len;exact⟨j,ops[j]' aaV,h1,h2,abZ⟩
 refine⟨λx hx y hy e=>?_,λx hx=>?_,λx hx=>?_,λx hx q z hz=>?_⟩
 .obtain⟨j,_,_,h2,_⟩:=get x hx;obtain⟨k,_,_,h3,_⟩:=get y hy;have:=W.apart j k x y h2 h3 e;subst this;rw[h2]at h3;exact Option.some.inj h3
 .obtain⟨j,_,_,h2,_⟩:=get x hx;exact W.anw x (avk h2)
 .obtain⟨j,o,h1,h2,h3⟩:=get x hx;exact(hok j o x h3 h2 h1).fit.1
 .obtain⟨j,o,h1,h2,h3⟩:=get x hx;exact(hok j o x h3 h2 h1).fit.2.1 q z hz
theorem Way.set{R:Reg}{ops:Array Oper}{t0:Nat}{path:List dN}{i:Nat}{x y:dN}(W:Way R ops t0 path)(hy:path[i]? =some y)(hd:x.d=y.d):Way R ops t0 (path.set i x):=by
 obtain⟨hi,_⟩:=auT.1 hy;have get:∀(j:Nat)(z:dN),(path.set i x)[j]? =some z->∃z',path[j]? =some z'/\z.d=z'.d:=λj z hz=>by
  by_cases e:j=i
  .subst e;rw[avT hi]at hz;cases hz;exact⟨y,hy,hd⟩
  .rw[avy (aww e)]at hz;exact⟨z,hz,rfl⟩
 refine⟨by simpa using W.len,λj o z ho hz=>?_,λz hz=>?_,λj k u v hu hv e=>?_,λj z hz=>?_⟩
 .obtain⟨z',h1,h2⟩:=get j z hz;rw[W.dst j o z' ho h1,h2]
 .obtain⟨j,hj⟩:=aw0 hz;obtain⟨z',h1,h2⟩:=get j z hj;rw[h2];exact W.anw z' (avk h1)
 .obtain⟨u',h1,h2⟩:=get j u hu;obtain⟨v',h3,h4⟩:=get k v hv;exact W.apart j k u' v' h1 h3 (by rw[← h2,← h4];exact e)
 .obtain⟨z',h1,h2⟩:=get j z hz;rw[h2];exact W.idx j z' h1
theorem anx{G:jT}(hE:ru P G Θ Γ w0 M){ops:Array Oper}{Q:Exit->Act->World->Prop}{R:Reg}{t0:Nat}{path:List dN}{L L':Nat->Bool}{i:Nat}{o:Oper}
 (W:Way R ops t0 path) (hle:t0<=ops.size) (hit:i<t0)
 (hRn:R.n=st.n) (hDn:∀i o d,ops[i]? =some o->i<t0->o.dst=some d->d<st.n) (hgd:∀i o g b,ops[i]? =some o->i<t0->o.guard=some (g,b)->∃og d,ops[g]? =some og/\og.dst=some d) (hcmp:∀e∈R.E,DL R.ms R.E e=true) (hEi:∀j o',ops[j]? =some o'->j<t0->yj Γ o'.op=true->j∈R.E)
 (hA:∀e q,Hf R.A e q=true->∃j,idxOf R.D (q / 64) 0=some j/\(R.ms.getD e 0).testBit j=true)
 (ho:ops[i]? =some o) (hen:Enabled Θ Γ R (bJ R.D st) path i o)
 (hok:∀j o x,ops[j]? =some o->path[j]? =some x->L j=true->rD Θ Γ R (bJ R.D st) path j o x)
 (hcl:∀j k,L j=true->(R.ms.getD j 0).testBit k=true->L k=true)
 (hsub:∀j,(R.ms.getD i 0).testBit j=true->L j=true) (hi:L i=false) (hi':L' i=true) (h:∀j,j≠i->L' j=L j)
 (hR:Rel w0 M T γ (after (bJ R.D st) path L) a w) {K:Act->World->Prop}
 (hK:∀x γ' a' w',(∃y,path[i]? =some y/\x.d=y.d)->rD Θ Γ R (bJ R.D st) (path.set i x) i o x->Rel w0 M T γ' (after (bJ R.D st) (path.set i x) L') a' w'->K a' w'):
 wpOp P ops Q i K a w:=by
 obtain⟨d,hd,hm,hcase⟩:=hen;have hlen:=W.len;have hil:i<path.length:=aaV;have hy:path[i]? =some path[i]:=by simp[hil]
 have hyd:path[i].d=d:=by have:=W.dst i o _ ho hy;rw[hd]at this;exact(Option.some.inj this).symm
 have hdD:aK R.D d=true:=by rw[← hyd];exact W.anw _ (avk hy)
 have agt:o.dst=some d\/(o.dst=none/\yV o.op=true/\st.n<=d):=by
  unfold rU at hd;split at hd
  .next e he=>cases hd;exact .inl he
  .next he=>
   split at hd
   .next hs=>cases hd;exact .inr ⟨he,hs,aaV⟩
   .cases hd
 have hfit:=W.fits hle hok;have hne:∀y∈pick path 0 L,y.d≠d:=λy hy' e=>by obtain⟨j,h1,h2⟩:=(kP _ _).1 hy';rw[au8]at h1;have:=W.apart j i y _ h2 hy (by rw[hyd];exact e);subst this;rw[hi]at h1;cases h1
 have heff:∀j x,path[j]? =some x->x.u≠[]->L j=true->j∈R.E:=λj x hx hu hL=>by obtain⟨hj,_⟩:=auT.1 hx;have hoj:ops[j]? =some (ops[j]' aaV):=abZ;exact hEi j _ hoj aaV ((hok j _ x hoj hx hL).fit.2.2.1 hu)
 have ajM:DL R.ms R.E i=true->∀j,j∈R.E->L j=true->(R.ms.getD i 0).testBit j=true:=λhc j hjE hL=>by
  have:=auY.1 hc j hjE;rw[avK,avK]at this;rcases this with g|g|g
  .have:=auG g;subst this;rw[hi]at hL;cases hL
  .exact g
  .have:=hcl j i hL g;rw[hi]at this;cases this
 have hmore:(viewAt R (bJ R.D st) path i).more (after (bJ R.D st) path L):=
  ai3 hfit hsub W.idx hi (λk hk=>by
   cases hb:(R.ms.getD k 0).testBit i with
   |false=>rfl
   |true=>have:=hcl k i hk hb;rw[hi]at this;cases this) (λhc j x hx hu hL=>ajM hc j (heff j x hx hu hL) hL) λe x hx hL q hq=>by obtain⟨hj,_⟩:=auT.1 hx;have hoj:ops[e]? =some (ops[e]' aaV):=abZ;exact((hok e _ x hoj hx hL).fit.2.2.2 q hq).1
 have aqT:∀q,aK (ng (pick path 0 L)) q=true->aK R.D (q / 64)=true/\q / 64≠d:=λq hq=>by obtain⟨x,hx,hxq⟩:=(nJ _).1 hq;obtain⟨e,h1,h2⟩:=(kP _ _).1 hx;rw[au8]at h1;obtain⟨hj,_⟩:=auT.1 h2;have hoj:ops[e]? =some (ops[e]' aaV):=abZ;have hf:=(hok e _ x hoj h2 h1).fit.2.2.2 q hxq;refine⟨hf.2,λe2=>?_⟩;obtain⟨j,g1,g2⟩:=hA e q hf.1;have:=W.idx i _ hy;rw[hyd,← e2,g1]at this;cases this;have:=hcl e i h1 g2;rw[hi]at this;cases this
 have hnone:∀q,q / 64=d->(after (bJ R.D st) path L).ah q=none:=λq hq=>by
  have hqD:aK R.D (q / 64)=true:=by rw[hq];exact hdD
  have hP:(lD (bJ R.D st) (pick path 0 L)).ah q=none:=by
   unfold lD;dsimp only;rw[CG _ λy hy'=>by
    cases hl:look y.u q with
    |none=>rfl
    |some z=>have:=(hfit.upd y hy' q z hl).2;rw[hqD]at this;cases this]
   dsimp only;rw[JH _ λy hy'=>by
    cases hl:look y.δ q with
    |none=>rfl
    |some z=>exact(hne y hy' ((sK (hfit.new y hy') hl).symm.trans hq)).elim]
   exact ae3 hqD
  unfold after;rw[mg];simp only[St.kill,hP,awr];cases aK (ng (pick path 0 L)) q<;>rfl
 have hself:∀x:dN,∀j,(R.ms.getD i 0).testBit j=true->path[j]? =(path.set i x)[j]? :=λx j hj=>by
  by_cases e:i=j
  .subst e;rw[oD hm (auH _)]at hj;cases hj
  .rw[avy e]
 have fin:∀(x:dN)(γ':Nat->Value)(w':World)(u:Value),x.d=d->(o.dst=none->x.v=.mD [])->(∀q y,look x.u q=some y->aK R.U q=true/\aK R.D (q / 64)=false)->CB x.d x.δ=true->(x.u≠[]->i∈R.E)->(∀q∈x.k,aK R.D (q / 64)=true/\q / 64≠d)->
  rD Θ Γ R (bJ R.D st) path i o x->Rel w0 M T γ' (((sH x.k (after (bJ R.D st) path L)).adds x.u).adds x.δ) a w'->aP (aj w0 T γ' (((sH x.k (after (bJ R.D st) path L)).adds x.u).adds x.δ) w') x.v u->K (a.put o.dst u) w':=by
  intro x γ' w' u hxd hxv hxu hxn hxE hxk FT hR' hv;have hn2:(((sH x.k (after (bJ R.D st) path L)).adds x.u).adds x.δ).n=st.n:=by rw[(EN _ _).2,(EN _ _).2,mg];unfold after;rw[mg];rfl
  have aqa:∀q,aK (ng (pick (path.set i x) 0 L')) q=true->aK R.D (q / 64)=true/\q / 64≠d:=λq hq=>by
   obtain⟨y,hy1,hyq⟩:=(nJ _).1 hq;obtain⟨e,h1,h2⟩:=(kP _ _).1 hy1;rw[au8]at h1;by_cases PL:e=i
   .subst PL;rw[avT hil]at h2;cases h2;exact hxk q hyq
   .rw[avy (aww PL)]at h2;rw[h e PL]at h1;exact aqT q ((nJ _).2 ⟨y,(kP _ _).2 ⟨e,by rw[au8];exact h1,h2⟩,hyq⟩)
  have akX:∀q,aK (ng (pick (path.set i x) 0 L')) q=true->(((sH x.k (after (bJ R.D st) path L)).adds x.u).adds x.δ).ah q=none:=λq hq=>by
   obtain⟨g1,g2⟩:=aqa q hq;rw[mO,mO];have hδq:look x.δ q=none:=by
    cases hl:look x.δ q with
    |none=>rfl
    |some z=>exact(g2 ((sK hxn hl).trans hxd)).elim
   have huq:look x.u q=none:=by
    cases hl:look x.u q with
    |none=>rfl
    |some z=>have:=(hxu q z hl).2;rw[g1]at this;cases this
   rw[hδq,huq];dsimp only;rw[mg];unfold after;rw[mg];obtain⟨y,hy1,hyq⟩:=(nJ _).1 hq;obtain⟨e,h1,h2⟩:=(kP _ _).1 hy1;rw[au8]at h1;by_cases PL:e=i
   .subst PL;rw[avT hil]at h2;cases h2;simp only[St.kill,sJ.2 hyq]
   .rw[avy (aww PL)]at h2;rw[h e PL]at h1;have:=(nJ (o:=q) (pick path 0 L)).2 ⟨y,(kP _ _).2 ⟨e,by rw[au8];exact h1,h2⟩,hyq⟩;simp only[St.kill,this,awr];cases aK x.k q<;>rfl
  have hset:Rel w0 M T γ' (St.set (((sH x.k (after (bJ R.D st) path L)).adds x.u).adds x.δ) x.d x.v) (a.put o.dst u) w':=by
   rcases agt with hs|⟨hs,_,hs2⟩
   .rw[hs,← hxd];exact hR'.set x.d (by rw[hn2,hxd];exact hDn i o d ho hit hs) x.v u hv
   .rw[hs];exact hR'.ap8 x.d (by rw[hn2,hxd];exact hs2) x.v (hxv hs)
  have W':Way R ops t0 (path.set i x):=W.set hy (by rw[hxd,hyd]);have aqU:Fits R.D R.U (pick (path.set i x) 0 L'):=by
   refine W'.fits (Θ:=Θ) (Γ:=Γ) (base:=bJ R.D st) hle λj o' z ho' hz hL=>?_;by_cases e:j=i
   .subst e;rw[avT hil]at hz;cases hz;rw[ho]at ho';cases ho';exact FT.agree (hself x)
   .rw[avy (aww e)]at hz;rw[h j e]at hL;refine(hok j o' z ho' hz hL).agree λk hk=>?_;have hLk:=hcl j k hL hk;have hki:i≠k:=λe=>by subst e;rw[hi]at hLk;cases hLk
    rw[avy hki]
  rw[akS hil hi hi' h aqU (λy hy'=>by rw[hxd];exact hne y hy') (λhu j y hj hL hy'=>by
   refine avS λhyu=>?_;have hjE:=heff j y hy' hyu hL;have:=ajM (hcmp i (hxE hu)) j hjE hL;rw[oD hm (axB hj)]at this;cases this) (AV.uz akX _ _ hv) (λq y hq=>by
   have oQ:(((sH x.k (after (bJ R.D st) path L)).adds x.u).adds x.δ).ah q=some y:=by
    rw[mO,mO];rcases hq with hq|hq
    .rw[hq]
    .have:look x.δ q=none:=by
      cases hl:look x.δ q with
      |none=>rfl
      |some z=>have h1:=(hxu q y hq).2;rw[(sK hxn hl).trans hxd,hdD]at h1;cases h1
     rw[this,hq]
   refine⟨?_,ay.uz akX y (hR'.ah q y oQ)⟩;cases hb:aK (ng (pick (path.set i x) 0 L')) q with
   |false=>rfl
   |true=>rw[akX q hb]at oQ;cases oQ)]at hset
  exact hK x γ' _ _ ⟨_,hy,by rw[hxd,hyd]⟩ (FT.agree (hself x)) hset
 have fin2:∀(x:dN)(γ':Nat->Value)(w':World)(u:Value),x.d=d->x.u=[]->(o.dst=none->False)->CB x.d x.δ=true->(∀q∈x.k,aK R.D (q / 64)=true/\q / 64≠d)->
  rD Θ Γ R (bJ R.D st) path i o (oz R.F x)->Rel w0 M T γ' (((sH x.k (after (bJ R.D st) path L)).adds []).adds x.δ) a w'->aP (aj w0 T γ' (((sH x.k (after (bJ R.D st) path L)).adds []).adds x.δ) w') x.v u->K (a.put o.dst u) w':=by
  intro x γ' w' u hxd hxu hno hxn hxk FT hR' hv;obtain⟨l1,l2,l3,l4⟩:=pJ R.F x;refine fin (oz R.F x) γ' w' u (l1.trans hxd) (λh=>(hno h).elim) (λq y hy=>by rw[l2,hxu]at hy;cases hy) (auY.2 λy hy=>by rw[l1];exact auY.1 hxn y (l4 y hy)) (λhne=>(hne (l2.trans hxu)).elim) (by rw[l3];exact hxk) FT ?_ ?_
  all_goals
   rw[l3,l2,hxu];unfold oz;split
   .next q q' e r l fr _ hv2 hu2 hδ=>
    split
    .next hb=>
     have e1:=auG hb;subst e1;rw[hδ]at hR' hv hxn;rw[hv2]at hv;have hqd:q / 64=d:=by have:=auG (auY.1 hxn _ auO);exact this.trans hxd
     have hq0:(sH x.k (after (bJ R.D st) path L)).ah q=none:=by rw[mg];simp only[St.kill,hnone q hqd,awr];cases aK x.k q<;>rfl
     have:=anv (hR.sH x.k) hq0 hR' hv
     first|exact this.1|exact this.2
    .first|exact hR'|exact hv
   .first|exact hR'|exact hv
 have hgv:∀g b y,o.guard=some (g,b)->(R.ms.getD i 0).testBit g=true->path[g]? =some y->∃og,ops[g]? =some og/\og.dst=some y.d/\∃u,a.tmps[y.d]? =some u/\aP (aj w0 T γ (after (bJ R.D st) path L) w) (y.v.kill (aK (ng (pick path 0 L)))) u:=by
  intro g b y hgo hg hy';obtain⟨hgl,_⟩:=auT.1 hy';have hog:ops[g]? =some (ops[g]' aaV):=abZ;have aqb:(ops[g]' aaV).dst=some y.d:=by obtain⟨og,e,h1,h2⟩:=hgd i o g b ho hit hgo;rw[hog]at h1;cases h1;have:=W.dst g _ y hog hy';unfold rU at this;rw[h2]at this;rw[h2];exact this
  have hyD:y.d<st.n:=hDn g _ _ hog aaV aqb;have hin:y∈pick path 0 L:=(kP _ _).2 ⟨g,by rw[au8];exact hsub g hg,hy'⟩;have htm:(after (bJ R.D st) path L).tmps y.d=y.v.kill (aK (ng (pick path 0 L))):=by unfold after;rw[mg];show(yh (pick path 0 L) y.d _).kill _=_;rw[Nl _ hin λz hz e=>hfit.one y hin z hz e]
  have hr1:=hR.tmps y.d;rw[htm]at hr1;have hsz:y.d<a.tmps.size:=by rw[hR.size];unfold after;rw[mg];exact hyD
  refine⟨_,hog,aqb,a.tmps[y.d],abZ,?_⟩;simpa[Array.getD,hsz]using hr1
 unfold wpOp;simp only[ho];rcases hcase with⟨hw,hcase⟩|hun
 .have hwant:Region.wanted o (yielded ops a.tmps)=true:=by
   rcases hw with e|⟨g,b,y,e1,e2,e3,e4⟩
   .unfold Region.wanted;rw[e]
   .obtain⟨og,k1,k2,u,k3,k4⟩:=hgv g b y e1 e2 e3;rw[e4]at k4;have k4:u=.bool b:=k4;subst k4;unfold Region.wanted;rw[e1];simp[yielded,k1,k2,k3]
  rw[if_pos hwant];left;rcases hcase with⟨he,ha,p,v,δ,hcalm,hp,hn⟩|⟨he,ha,p,q,y,happ,hp,hq1,hq2,hq3⟩|⟨he,hst,υ,hυ,hin⟩|⟨⟨he,hst⟩,p,ρ,os,hrel,hp,hall⟩
  .obtain⟨v',hc',hless⟩:=alN hmore d o.op hcalm;have hfr:jH (after (bJ R.D st) path L) δ=true:=by refine auY.2 λz hz=>?_;rw[hnone z.1 (auG (auY.1 hn z hz))];rfl
   refine Ju hE hR o hc' hp hfr ?_;intro u γ' w' hR' hv';have hvx:aP (aj w0 T γ' ((after (bJ R.D st) path L).adds δ) w') v u:=by
    rcases hless with e|e
    .rw[e];trivial
    .rw[← e];exact hv'
   have FT:rD Θ Γ R (bJ R.D st) path i o (oz R.F ⟨d,v,[],δ,[]⟩):=by obtain⟨l1,_⟩:=pJ R.F ⟨d,v,[],δ,[]⟩;refine⟨by rw[l1];exact hd,hm,.inl ⟨hw,.inl ⟨he,ha,p,v,δ,by rw[l1];exact hcalm,hp,by rw[l1];exact hn,by rw[l1]⟩⟩⟩
   exact fin2 ⟨d,v,[],δ,[]⟩ γ' w' u rfl rfl (λh=>by
    rcases agt with hs|⟨_,hs,_⟩
    .rw[h]at hs;cases hs
    .rw[ae6 hs]at he;cases he) hn (λq hq=>by cases hq) FT hR' hvx
  .have aqV:=aiX hmore happ;have FT:rD Θ Γ R (bJ R.D st) path i o (oz R.F ⟨d,.sv (.one (.ref (d*64+1))),[],[(d*64+1,y)],[q]⟩):=by obtain⟨l1,_⟩:=pJ R.F ⟨d,.sv (.one (.ref (d*64+1))),[],[(d*64+1,y)],[q]⟩;refine⟨by rw[l1];exact hd,hm,.inl ⟨hw,.inr (.inl ⟨he,ha,p,q,y,happ,hp,by rw[l1];exact⟨hq1,hq2,hq3⟩,by rw[l1]⟩)⟩⟩
   have hkq:∀s:St,s.kill (aK [q])=s.kill (Nat.beq q ·):=λs=>by
    rw[show aK [q]=(Nat.beq q ·)from funext λo=>by
     simp only[aK];cases h1:Nat.beq o q with
     |true=>rw[auG h1,avr]
     |false=>
      cases h2:Nat.beq q o with
      |false=>rfl
      |true=>rw[auG h2,avr]at h1;cases h1]
   refine alV hE hR o (n:=d*64+1) aqV hp (hnone (d*64+1) (apd d)) λu γ' w' hR' hv=>?_;rw[← hkq]at hR' hv;exact fin2 ⟨d,.sv (.one (.ref (d*64+1))),[],[(d*64+1,y)],[q]⟩ γ' w' u rfl rfl (λh=>by
    rcases agt with hs|⟨_,hs,_⟩
    .rw[h]at hs;cases hs
    .rw[ae6 hs]at he;cases he) (by show(Nat.beq ((d*64+1) / 64) d&&true)=true;rw[show(d*64+1) / 64=d from aaV,avr];rfl)
    (λr hr=>by rw[show r=q by simpa using hr];exact⟨hq1,hq2⟩) FT hR' hv
  .have FT:rD Θ Γ R (bJ R.D st) path i o ⟨d,.mD [],υ,[],[]⟩:=⟨hd,hm,.inl ⟨hw,.inr (.inr (.inl ⟨he,hst,υ,hυ,hin,rfl⟩))⟩⟩;obtain⟨f1,f2,f3,_⟩:=FT.fit;refine adB hE hR hmore o hυ λγ' w' hR'=>?_;exact fin ⟨d,.mD [],υ,[],[]⟩ γ' w' undef rfl (λ_=>rfl) f2 f1 (λ_=>hEi i o ho hit he) (λq hq=>by cases hq) FT hR' ⟨#[],rfl,trivial⟩
  .refine ahp hE hR hmore o hrel hp hnone hall λt v υ δ u γ' w' ht hres hR' hv=>?_;have FT:rD Θ Γ R (bJ R.D st) path i o ⟨d,v,υ,δ,[]⟩:=⟨hd,hm,.inl ⟨hw,.inr (.inr (.inr ⟨⟨he,hst⟩,rfl,p,ρ,os,t,hrel,hp,ht,hall,hres⟩))⟩⟩;obtain⟨f1,f2,f3,_⟩:=FT.fit;exact fin ⟨d,v,υ,δ,[]⟩ γ' w' u rfl (λh=>by
    rcases agt with hs|⟨_,hs,_⟩
    .rw[h]at hs;cases hs
    .rw[hst]at hs;cases hs) f2 f1 (λ_=>hEi i o ho hit he) (λq hq=>by cases hq) FT hR' hv
 .have hwant:Region.wanted o (yielded ops a.tmps)=false:=by
   obtain⟨g,b,y,e1,e2,e3,e4⟩:=hun;obtain⟨og,k1,k2,u,k3,k4⟩:=hgv g b y e1 e2 e3;unfold Region.wanted;rw[e1];rcases e4 with⟨c,e4,hne'⟩|⟨vs,e4⟩
   .rw[e4]at k4;have k4:u=.bool c:=k4;subst k4;cases c<;>cases b<;>first|(exact(hne' rfl).elim)|simp[yielded,k1,k2,k3]
   .rw[e4]at k4;obtain⟨us,rfl,_⟩:=k4;simp[yielded,k1,k2,k3]
  rw[if_neg (by rw[hwant];simp)];exact fin (skipped d) γ w undef rfl (λ_=>rfl) (λq y hy=>arZ) rfl (λhu=>(hu rfl).elim) (λq hq=>by cases hq) ⟨hd,hm,.inr ⟨hun,rfl⟩⟩ hR ⟨#[],rfl,trivial⟩
theorem fill{G:jT}(hE:EnvB P G Θ Γ){R:Reg}{base:St}{front:List Oper}{path:List dN}{L:Nat->Bool}
 (Rj:∀ext:List dN,ZK Θ Γ R base front ext->∀o,front[ext.length]? =some o->Enabled Θ Γ R base ext ext.length o)
 (hok:∀j o x,front[j]? =some o->path[j]? =some x->L j=true->rD Θ Γ R base path j o x) (hlen:path.length=front.length)
 (hcl:∀j k,L j=true->(R.ms.getD j 0).testBit k=true->L k=true):
 ∀n,n<=front.length->∃ext:List dN,ext.length=n/\ZK Θ Γ R base front ext/\∀j,j<n->L j=true->ext[j]? =path[j]? :=by
 intro n
 induction n with
 |zero=>exactλ_=>⟨[],rfl,(λi o x _ hx=>by simp at hx),(λj hj=>aaV)⟩
 |succ n ih=>
  intro hn;obtain⟨ext,h1,h2,h3⟩:=ih aaV;have ho:front[n]? =some (front[n]' aaV):=abZ;have more:∀x:dN,rD Θ Γ R base (ext++[x]) n (front[n]' aaV) x->ZK Θ Γ R base front (ext++[x]):=by
   intro x hx i o y hi hy;rcases au2 i n with hlt|hge
   .rw[zT aaV]at hy;have:=h2 i o y hi hy;refine this.agree λj hj=>?_;have:j<i:=by
     rcases au2 j i with h|h
     .exact h
     .rw[oD this.2.1 h]at hj;cases hj
    rw[zT aaV]
   .have:i=n:=by obtain⟨hi',_⟩:=auT.1 hy;simp at hi';omega
    subst this;rw[ho]at hi;cases hi;have e:y=x:=by rw[← h1]at hy;simpa using hy.symm
    rw[e];exact hx
  cases hL:L n with
  |true=>
   have hp:path[n]? =some (path[n]' aaV):=abZ;have hx:=hok n _ _ ho hp hL;have hag:∀j,(R.ms.getD n 0).testBit j=true->path[j]? =(ext++[path[n]' aaV])[j]? :=λj hj=>by
    have hjn:j<n:=by
     rcases au2 j n with h|h
     .exact h
     .rw[oD hx.2.1 h]at hj;cases hj
    rw[zT aaV,h3 j hjn (hcl n j hL hj)]
   refine⟨ext++[path[n]' aaV],by simp[h1],more _ (hx.agree hag),λj hj hLj=>?_⟩;by_cases e:j=n
   .subst e;rw[hp,avc aaV];simp[h1]
   .rw[zT aaV];exact h3 j aaV hLj
  |false=>
   have hen:=Rj ext h2 _ (by rw[h1];exact ho);rw[h1]at hen;have hag:∀x:dN,(∃d,rU R.n n (front[n]' aaV)=some d/\R.ms.getD n 0<2 ^ n)->∀j,(R.ms.getD n 0).testBit j=true->ext[j]? =(ext++[x])[j]? :=λx⟨_,_,hm⟩ j hj=>by
    have hjn:j<n:=by
     rcases au2 j n with h|h
     .exact h
     .rw[oD hm h]at hj;cases hj
    rw[zT aaV]
   obtain⟨d,hd,hm,hc⟩:=hen;have hx:∃x,rD Θ Γ R base ext n (front[n]' aaV) x:=by
    rcases hc with⟨hw,⟨he,ha,p,v,δ,hcalm,hp,hnm⟩|⟨he,ha,p,q,y,happ,hp,hq⟩|⟨he,hst,υ,hυ,hin⟩|⟨⟨he,hst⟩,p,ρ,os,hrel,hp,hall⟩⟩|hun
    .exact⟨oz R.F ⟨d,v,[],δ,[]⟩,by rw[(pJ _ _).1];exact hd,hm,.inl ⟨hw,.inl ⟨he,ha,p,v,δ,by rw[(pJ _ _).1];exact hcalm,hp,by rw[(pJ _ _).1];exact hnm,by rw[(pJ _ _).1]⟩⟩⟩
    .exact⟨oz R.F ⟨d,.sv (.one (.ref (d*64+1))),[],[(d*64+1,y)],[q]⟩,by rw[(pJ _ _).1];exact hd,hm,.inl ⟨hw,.inr (.inl ⟨he,ha,p,q,y,happ,hp,by rw[(pJ _ _).1];exact hq,by rw[(pJ _ _).1]⟩)⟩⟩
    .exact⟨⟨d,.mD [],υ,[],[]⟩,hd,hm,.inl ⟨hw,.inr (.inr (.inl ⟨he,hst,υ,hυ,hin,rfl⟩))⟩⟩
    .have hne:∃t,ρ.R t:=by
      unfold PG at hrel;split at hrel
      case h_2=>cases hrel
      next f args pI hop=>
      split at hrel
      case h_2=>cases hrel
      next ms con hcon=>
      split at hrel
      case h_2=>cases hrel
      next vs os' Vt=>
      split at hrel
      case h_2=>cases hrel
      split at hrel
      case h_2=>cases hrel
      next q ρ' hq=>
      cases hrel;exact((hE.agm f ms con hcon).1 vs _ ρ hq hp).1
     obtain⟨t,ht⟩:=hne;obtain⟨⟨v,υ,δ⟩,hres⟩:=hall t ht;exact⟨⟨d,v,υ,δ,[]⟩,hd,hm,.inl ⟨hw,.inr (.inr (.inr ⟨⟨he,hst⟩,rfl,p,ρ,os,t,hrel,hp,ht,hall,hres⟩))⟩⟩
    .exact⟨skipped d,hd,hm,.inr ⟨hun,rfl⟩⟩
   obtain⟨x,hx⟩:=hx;refine⟨ext++[x],by simp[h1],more x (hx.agree (hag x ⟨d,hd,hm⟩)),λj hj hLj=>?_⟩;have:j≠n:=λe=>by subst e;rw[hL]at hLj;cases hLj
   rw[zT aaV];exact h3 j aaV hLj
end Go.Fw
namespace Go.Fw
open Go
variable {P:Program}
def handsOn(o:Oper):Option Operand:=match o.op,o.guard with
 |.move x,none=>some x
 |.extract x _,none=>some x
 |_,_=>none
def Operand.KU(d:Nat):Operand->Bool
 |.tmp t=>!(Nat.beq t d)
 |_=>true
def ZL(d:Nat)(o:Oper):Bool:=match o.op,o.guard with
 |.move x,none|.assign x,none|.extract x _,none=>Operand.KU d x
 |.store _ a x,none=>Operand.KU d a&&Operand.KU d x
 |_,_=>false
def passes(f o:Oper):Bool:=match handsOn f,f.dst with
 |some x,some d=>ZL d o&&(match o.dst with|some e=>!(Nat.beq e d)&&Operand.KU e x|none=>true)
 |_,_=>false
theorem eval_put_ne{a:Act}{d:Option Tmp}{v:Value}{x:Operand}(h:∀e,d=some e->Operand.KU e x=true):(a.put d v).eval x=a.eval x:=by
 cases d with
 |none=>rfl
 |some e=>
  cases x with
  |tmp t=>
   have:=h e rfl;have hne:e≠t:=λh=>by subst h;simp[Operand.KU]at this
   show(a.tmps.setIfInBounds e v).getD t undef=a.tmps.getD t undef;simp only[awC];rw[axw hne]
  |const _=>rfl
  |global _=>rfl
  |func _=>rfl
theorem put_comm{a:Act}{d e:Option Tmp}{u v:Value}(h:∀x y,d=some x->e=some y->x≠y):(a.put d u).put e v=(a.put e v).put d u:=by
 cases d with
 |none=>rfl
 |some x=>cases e with
  |none=>rfl
  |some y=>have:=h x y rfl rfl;simp only[Act.put];rw[Array.setIfInBounds_comm _ _ this]
theorem ahq{f:Oper}{x:Operand}(hf:handsOn f=some x):f.guard=none/\
 ((∃g:Value->Option Value,(∀b:Act,∀w',(match g (b.eval x)with|some u=>(execOp b.eval f).run P w'=.ok (.value u) w'|none=>∃m,(execOp b.eval f).run P w'=m/\∀next Q,¬f.upon P b next Q m)))):=by
 unfold handsOn at hf;split at hf
 .next y hop hg=>cases hf;exact⟨hg,λv=>some v,λb w'=>agK⟩
 .next y ix hop hg=>
  cases hf;refine⟨hg,λv=>match v with|.tuple vs=>vs[ix]? |_=>none,λb w'=>?_⟩;cases hv:b.eval x with
  |tuple vs=>
   simp only;cases hq:vs[ix]? with
   |some u=>simp[execOp,hop,hv,Instr.extract,hq]
   |none=>
    refine⟨_,rfl,λnext Q=>?_⟩;simp[execOp,hop,hv,Instr.extract,hq,stuck,Oper.upon]
  |_=>refine⟨_,rfl,λnext Q=>?_⟩;simp[execOp,hop,hv,Instr.extract,stuck,Oper.upon]
 .cases hf
theorem afS{d:Nat}{o:Oper}(h:ZL d o=true):o.guard=none/\
 (∀(a:Act)(v:Value),execOp (a.put (some d) v).eval o=execOp a.eval o)/\
 (∀(a:Act)(w:World),(∃v w',(execOp a.eval o).run P w=.ok (.value v) w')\/(∃w',(execOp a.eval o).run P w=.ok .skip w')\/∃x w',(execOp a.eval o).run P w=.halt x w'):=by
 unfold ZL at h;have ev:∀(a:Act)(v:Value)(x:Operand),Operand.KU d x=true->(a.put (some d) v).eval x=a.eval x:=λa v x hx=>eval_put_ne λe he=>by cases he;exact hx
 split at h
 .next x hop hg=>
  refine⟨hg,λa v=>?_,λa w=>.inl ⟨a.eval x,w,?_⟩⟩
  .simp only[execOp,hop,ev a v x h]
  .simp[execOp,hop]
 .next x hop hg=>
  refine⟨hg,λa v=>?_,λa w=>.inl ⟨a.eval x,w,?_⟩⟩
  .simp only[execOp,hop,ev a v x h]
  .simp[execOp,hop]
 .next x ix hop hg=>
  refine⟨hg,λa v=>?_,λa w=>?_⟩
  .simp only[execOp,hop,ev a v x h]
  .cases hr:(Instr.extract (a.eval x) ix).run P w with
   |ok u w'=>exact .inl ⟨u,w',aqm⟩
   |halt u w'=>exact .inr (.inr ⟨u,w',aqm⟩)
 .next t b x hop hg=>
  rw[auC]at h;refine⟨hg,λa v=>?_,λa w=>?_⟩
  .simp only[execOp,hop,ev a v b h.1,ev a v x h.2]
  .cases hr:(Instr.storeAt t (a.eval b) (a.eval x)).run P w with
   |ok u w'=>exact .inr (.inl ⟨w',aqm⟩)
   |halt u w'=>exact .inr (.inr ⟨u,w',aqm⟩)
 .cases h
def stepW(P:Program)(ops:Array Oper)(Q:Exit->Act->World->Prop)(o:Oper)(K:Act->World->Prop)(a:Act)(w:World):Prop:=
 if Region.wanted o (yielded ops a.tmps)then o.wp P a w K Q\/(o.asks P a w/\LetsOut Q)else K (a.put o.dst undef) w
theorem Rk{ops:Array Oper}{Q:Exit->Act->World->Prop}{o:Oper}{K K':Act->World->Prop}{a:Act}{w:World}(h:∀a w,K a w->K' a w)(hs:stepW P ops Q o K a w):stepW P ops Q o K' a w:=by
 unfold stepW at*;split
 .next hw=>rw[if_pos hw]at hs;exact hs.imp (Oper.wp_mono h) id
 .next hw=>rw[if_neg hw]at hs;exact h _ _ hs
theorem JI{ops:Array Oper}{Q:Exit->Act->World->Prop}(hO:¬LetsOut Q){o:Oper}(hg:o.guard=none){K:Act->World->Prop}{a:Act}{w:World}:stepW P ops Q o K a w↔o.wp P a w K Q:=by
 have hw:Region.wanted o (yielded ops a.tmps)=true:=by simp[Region.wanted,hg]
 unfold stepW;rw[if_pos hw];exact⟨λh=>h.elim id λh=>(hO h.2).elim,.inl⟩
theorem akY{ops:Array Oper}{Q:Exit->Act->World->Prop}(hQ:∀c a w,¬Q (.panic c) a w)(hO:¬LetsOut Q){f o:Oper}(h:passes f o=true){K:Act->World->Prop}{a:Act}{w:World}
 (hs:stepW P ops Q f (stepW P ops Q o K) a w):stepW P ops Q o (stepW P ops Q f K) a w:=by
 unfold passes at h;split at h
 .next x d hx hd=>
  rw[auC]at h;obtain⟨hp,hde⟩:=h;obtain⟨hgf,g,hg⟩:=ahq (P:=P) hx;obtain⟨hgo,hsame,hout⟩:=afS (P:=P) hp;rw[JI hO hgf]at hs;rw[JI hO hgo];have hxo:∀(v:Value),(a.put o.dst v).eval x=a.eval x:=λv=>eval_put_ne λe he=>by rw[he]at hde;simp only[auC]at hde;exact hde.2
  have hcomm:∀(u v:Value),(a.put f.dst u).put o.dst v=(a.put o.dst v).put f.dst u:=λu v=>put_comm λx y hx hy=>by rw[hd]at hx;cases hx;rw[hy]at hde;simp only[auC,awg]at hde;intro e;subst e;simp at hde
  have h0:=hg a w;cases hga:g (a.eval x)with
  |none=>
   rw[hga]at h0;obtain⟨m,hm,hno⟩:=h0;unfold Oper.wp at hs;rw[hm]at hs;exact(hno _ _ hs).elim
  |some u=>
   rw[hga]at h0;simp only at h0;unfold Oper.wp at hs;rw[h0]at hs;have hs:stepW P ops Q o K (a.put f.dst u) w:=hs;rw[JI hO hgo]at hs;unfold Oper.wp at hs ⊢;rw[hd,hsame]at hs;rw[← hd]at hs;have again:∀(v:Value)(w':World),K ((a.put f.dst u).put o.dst v) w'->stepW P ops Q f K (a.put o.dst v) w':=by intro v w' hK;rw[JI hO hgf];have h1:=hg (a.put o.dst v) w';rw[hxo,hga]at h1;simp only at h1;unfold Oper.wp;rw[h1];show K _ _;rw[← hcomm];exact hK
   rcases hout a w with⟨v,w',hr⟩|⟨w',hr⟩|⟨y,w',hr⟩
   .rw[hr]at hs ⊢;exact again v w' hs
   .rw[hr]at hs ⊢;exact again undef w' hs
   .rw[hr]at hs;cases y<;>simp only[Oper.upon]at hs;exact(hQ _ _ _ hs).elim
 .cases h
def FU(P:Program)(ops:Array Oper)(Q:Exit->Act->World->Prop)(K:Act->World->Prop):List Oper->Act->World->Prop
 |[]=>K
 |o::r=>stepW P ops Q o (FU P ops Q K r)
theorem YV{ops:Array Oper}{Q:Exit->Act->World->Prop}:∀(l:List Oper),FU P ops Q (Q .normal) l=wpList P ops Q l
 |[]=>rfl
 |o::r=>by
  funext a w
  rw[FU,YV r];rfl
theorem ZM{ops:Array Oper}{Q:Exit->Act->World->Prop}(hQ:∀c a w,¬Q (.panic c) a w)(hO:¬LetsOut Q){o:Oper}{K:Act->World->Prop}(B:List Oper):
 ∀(A:List Oper)(a:Act)(w:World),(∀f∈A,passes f o=true)->FU P ops Q K (A++o::B) a w->stepW P ops Q o (FU P ops Q K (A++B)) a w
 |[],_,_,_,hs=>hs
 |f::A,a,w,h,hs=>by have hs:stepW P ops Q f (FU P ops Q K (A++o::B)) a w:=hs;exact akY hQ hO (h f auO) (Rk (λa w h'=>ZM hQ hO B A a w (λf hf=>h f (auM _ hf)) h') hs)
theorem wpOp_step{ops:Array Oper}{Q:Exit->Act->World->Prop}{i:Nat}{o:Oper}(ho:ops[i]? =some o){K:Act->World->Prop}{a:Act}{w:World}:wpOp P ops Q i K a w↔stepW P ops Q o K a w:=by unfold wpOp stepW;simp only[ho]
theorem VL{ops:Array Oper}{listed:Array Bool}(hcl:∀i j,listed.getD i false=true->((masks ops.toList []).getD i 0).testBit j=true->listed.getD j false=true){i:Nat}{o:Oper}(ho:ops[i]? =some o)
 (hi:i∈Region.ready .any ops listed) (j:Nat) (hj:((masks ops.toList []).getD i 0).testBit j=true):listed.getD j false=true:=by
 obtain⟨o',ho',hn,hall⟩:=BL.1 hi;rw[ho]at ho';cases ho';obtain⟨e,he,hb,hej⟩:=ama (ops:=ops.toList) (i:=i) (o:=o) aqL hj;rcases hej with rfl|h
 .exact hall e he hb
 .exact hcl e.on j (hall e he hb) h
theorem anz{ops:Array Oper}{Q:Exit->Act->World->Prop}(hQ:∀c a w,¬Q (.panic c) a w)(hO:¬LetsOut Q){t0:Nat}{S:Nat->Prop}
 (hfl:∀i o j f,ops[i]? =some o->ops[j]? =some f->j<i->t0<=i\/(S i/\S j)->((masks ops.toList []).getD i 0).testBit j=true\/(S j/\passes f o=true)) (hS:∀j,S j->j<t0)
 (hlt:∀i o,ops[i]? =some o->(masks ops.toList []).getD i 0<2 ^ i):
 ∀(fuel:Nat)(F:List (Nat×Oper))(l:List Oper)(k:Nat)(listed:Array Bool)(a:Act)(w:World),t0<=k->k<=ops.size->(∀j,l[j]? =ops[k+j]?)->listed.size=ops.size->
  (∀x∈F,ops[x.1]? =some x.2/\S x.1)->F.Pairwise (λx y=>x.1<y.1)->
  (∀i,i<ops.size->(listed.getD i false=true↔i<k/\∀x∈F,x.1≠i))->
  (∀i j,listed.getD i false=true->((masks ops.toList []).getD i 0).testBit j=true->listed.getD j false=true)->
  F.length+ops.size<=k+fuel->FU P ops Q (Q .normal) (F.map (·.2)++l) a w->wpAny P .any ops Q fuel listed a w:=by
 intro fuel;have amf:∀{i:Nat}{o:Oper},ops[i]? =some o->∀e∈o.after,Region.binds .any e=true->e.on<i:=by
  intro i o ho e he hb;have abp:=ae1 (ops:=ops.toList) (i:=i) (o:=o) aqL he hb;rcases au2 e.on i with h|h
  .exact h
  .rw[oD (hlt i o ho) h]at abp;cases abp
 have ape:∀(k:Nat)(l:List Oper)(listed:Array Bool),(∀j,l[j]? =ops[k+j]?)->listed.size=ops.size->(∀i,i<ops.size->(listed.getD i false=true↔i<k/\∀x∈([]:List (Nat×Oper)),x.1≠i))->l=[]->Region.ready .any ops listed=[]:=by
  intro k l listed hl hsz hL hnil;have hend:ops.size<=k:=by
   rcases au2 k ops.size with h|h
   .have:=hl 0;simp[h,hnil]at this
   .exact h
  refine List.eq_nil_iff_forall_not_mem.2 λi hi=>?_;obtain⟨o,ho,hn,_⟩:=BL.1 hi;obtain⟨hi1,_⟩:=auL.1 ho;have:=(hL i hi1).2 ⟨aaV,λx hx=>aeZ⟩;rw[ER aaV,this]at hn;cases hn
 induction fuel with
 |zero=>
  intro F l k listed a w hk hkz hl hsz hF hp hL hcl hf hw;have hk2:ops.size<=k/\F.length=0:=by
   rcases au2 k ops.size with h|h
   .omega
   .refine⟨h,?_⟩;cases F with
    |nil=>rfl
    |cons x F=>exfalso;have:=hl 0;obtain⟨h1,h2⟩:=hF x auO;have:=hS _ h2;simp only[auE]at hf;omega
  obtain⟨hk2,hF0⟩:=hk2;have hFn:F=[]:=avv.1 hF0;subst hFn;have hln:l=[]:=by
   cases l with
   |nil=>rfl
   |cons o l=>have:=hl 0;rw[awU aaV]at this;cases this
  subst hln;exact wpAny_done (ape k [] listed hl hsz hL rfl) hw 0
 |succ fuel ih=>
  intro F l k listed a w hk hkz hl hsz hF hp hL hcl hf hw;have hset:∀i,i<listed.size->∀j,(listed.setIfInBounds i true).getD j false=(if j=i then true else listed.getD j false):=by
   intro i hi j;split
   .next e=>subst e;simp[Array.getD,hi]
   .next e=>exact getD_set_ne false (aww e)
  have amg:∀i o,ops[i]? =some o->i∈Region.ready .any ops listed->∀j m,(listed.setIfInBounds i true).getD j false=true->((masks ops.toList []).getD j 0).testBit m=true->(listed.setIfInBounds i true).getD m false=true:=by
   intro i o ho hi j m hj hm;obtain⟨hi1,_⟩:=auL.1 ho;rw[hset i aaV]at hj ⊢;split
   .rfl
   .split at hj
    .next e=>subst e;exact VL hcl ho hi m hm
    .exact hcl j m hj hm
  refine⟨λhnone=>?_,λi hi=>?_⟩
  .cases F with
   |cons x F=>
    exfalso;obtain⟨hx1,hx2⟩:=hF x auO;have aub:=hS _ hx2;obtain⟨hxs,_⟩:=auL.1 hx1;have hun:listed.getD x.1 true=false:=by
     rw[ER aaV];cases hb:listed.getD x.1 false with
     |false=>rfl
     |true=>exact(((hL x.1 hxs).1 hb).2 x auO rfl).elim
    have:x.1∈Region.ready .any ops listed:=by
     refine BL.2 ⟨x.2,hx1,hun,λe he hb=>?_⟩;have anA:=amf hx1 e he hb;refine(hL e.on aaV).2 ⟨aaV,λy hy=>?_⟩;rcases auQ.1 hy with rfl|hy
     .omega
     .have:=(awo.1 hp).1 y hy;omega
    rw[hnone]at this;cases this
   |nil=>
    cases l with
    |nil=>exact hw
    |cons o l=>
     exfalso;have ho:ops[k]? =some o:=by simpa using(hl 0).symm
     obtain⟨hks,_⟩:=auL.1 ho;have hun:listed.getD k true=false:=by
      rw[ER aaV];cases hb:listed.getD k false with
      |false=>rfl
      |true=>have:=((hL k hks).1 hb).1;omega
     have:k∈Region.ready .any ops listed:=by refine BL.2 ⟨o,ho,hun,λe he hb=>?_⟩;have anA:=amf ho e he hb;exact(hL e.on aaV).2 ⟨aaV,λy hy=>arZ⟩
     rw[hnone]at this;cases this
  .obtain⟨o,ho,hn,_⟩:=BL.1 hi;obtain⟨his,_⟩:=auL.1 ho;have hun:listed.getD i false=false:=by rw[← ER aaV];exact hn
   have hsub:=VL hcl ho hi;rw[wpOp_step ho];by_cases hFi:∃x∈F,x.1=i
   .obtain⟨x,hxF,rfl⟩:=hFi;obtain⟨A,B,rfl⟩:=List.append_of_mem hxF;obtain⟨hx1,hx2⟩:=hF x hxF;rw[ho]at hx1;have hxo:x.2=o:=(Option.some.inj hx1).symm;have hpA:∀y∈A,y.1<x.1:=λy hy=>(axC.1 hp).2.2 y hy x auO;have hpB:∀y∈B,x.1<y.1:=λy hy=>(awo.1 (axC.1 hp).2.1).1 y hy;have hw2:FU P ops Q (Q .normal) (A.map (·.2)++o::(B.map (·.2)++l)) a w:=by rw[avA,auX,hxo,auR]at hw;exact hw
    refine Rk ?_ (ZM hQ hO _ _ a w (λf hf=>?_) hw2)
    .intro a' w' h';refine ih (A++B) l k _ a' w' hk hkz hl (by simpa using hsz) (λy hy=>hF y ?_) ?_ ?_ (amg x.1 o ho hi) ?_ (by rw[avA,auR];exact h')
     .rcases au4.1 hy with h|h
      .exact avp _ h
      .exact avJ _ (auM _ h)
     .rw[axC]at hp ⊢;exact⟨hp.1,(awo.1 hp.2.1).2,λy hy z hz=>hp.2.2 y hy z (auM _ hz)⟩
     .intro j hj;rw[hset x.1 aaV];split
      .next e=>
       subst e;refine⟨λ_=>⟨by have:=hS _ hx2;omega,λy hy=>?_⟩,λ_=>rfl⟩;rcases au4.1 hy with h|h
       .have:=hpA y h;omega
       .have:=hpB y h;omega
      .next e=>
       rw[hL j hj];refine awh λ_=>⟨λh y hy=>?_,λh y hy=>?_⟩
       .rcases au4.1 hy with h'|h'
        .exact h y (avp _ h')
        .exact h y (avJ _ (auM _ h'))
       .rcases au4.1 hy with h'|h'
        .exact h y (avp _ h')
        .rcases auQ.1 h' with rfl|h'
         .exactλe'=>e e'.symm
         .exact h y (avJ _ h')
     .simp only[auB,auE]at hf ⊢;omega
    .obtain⟨y,hy,rfl⟩:=avO.1 hf;obtain⟨hy1,hy2⟩:=hF y (avp _ hy);obtain⟨hys,_⟩:=auL.1 hy1;rcases hfl x.1 o y.1 y.2 ho hy1 (hpA y hy) (.inr ⟨hx2,hy2⟩)with hb|hb
     .have:=((hL y.1 hys).1 (hsub y.1 hb)).2 y (avp _ hy) rfl;exact this.elim
     .exact hb.2
   .have hge:k<=i:=by
     rcases au2 i k with h|h
     .have:=(hL i his).2 ⟨h,λx hx e=>hFi ⟨x,hx,e⟩⟩;rw[hun]at this;cases this
     .exact h
    have hik:i=k:=by
     rcases au2 k i with h|h
     .exfalso;have hok:∃f,ops[k]? =some f:=⟨ops[k]' aaV,abZ⟩;obtain⟨f,hof⟩:=hok;rcases hfl i o k f ho hof h (.inl aaV)with hb|hb
      .have:=((hL k aaV).1 (hsub k hb)).1;omega
      .have:=hS _ hb.1;omega
     .omega
    subst hik;cases l with
    |nil=>have:=hl 0;rw[av8,ho]at this;cases this
    |cons o' l=>
     have ho':ops[i]? =some o':=by simpa using(hl 0).symm
     rw[ho]at ho';cases ho';refine Rk ?_ (ZM hQ hO _ _ a w (λf hf=>?_) hw)
     .intro a' w' h';refine ih F l (i+1) _ a' w' aaV aaV (λj=>by have:=hl (j+1);simpa[Nat.add_assoc,axy 1 j]using this) (by simpa using hsz) hF hp ?_ (amg i o ho hi) aaV h';intro j hj;rw[hset i aaV];split
      .next e=>subst e;exact⟨λ_=>⟨aaV,λx hx e=>hFi ⟨x,hx,e⟩⟩,λ_=>rfl⟩
      .next e=>rw[hL j hj];exact and_congr_left λ_=>aaV
     .obtain⟨y,hy,rfl⟩:=avO.1 hf;obtain⟨hy1,hy2⟩:=hF y hy;obtain⟨hys,_⟩:=auL.1 hy1;have:=hS _ hy2;rcases hfl i o y.1 y.2 ho hy1 aaV (.inl hk)with hb|hb
      .exact(((hL y.1 hys).1 (hsub y.1 hb)).2 y hy rfl).elim
      .exact hb.2
end Go.Fw
namespace Go.Fw
open Go
variable {P:Program} {w0:World} {M:Nat->Prop} {T:Ext} {γ γ':Nat->Value} {st:St} {a:Act} {w w':World} {Θ:jm} {Γ:kM}
def ahr:Op->Bool
 |.store _ _ _=>false
 |.call {callee:=.builtin .append,.. }|.call {callee:=.builtin .copy,.. }|.call {callee:=.builtin .clear,.. }=>false
 |_=>true
def akZ(m:List Nat)(o:Oper):Bool:=match o.op,o.guard with
 |.call {callee:=.builtin .append,args,.. },none=>match args.toList with
  |.tmp t::_=>aK m t
  |_=>false
 |_,_=>false
def madeBy(m:List Nat)(o:Oper):List Nat:=match o.op,o.dst with
 |.buildSlice _ _ _,some d=>d::m
 |.call {callee:=.builtin .append,.. },some d=>d::m
 |_,_=>m
def VN:List Nat->List Oper->Nat
 |_,[]=>0
 |m,o::r=>match ahr o.op||akZ m o with|true=>VN (madeBy m o) r+1|false=>0
def VO:List Nat->List Oper->Nat
 |_,[]=>0
 |m,o::r=>match ahr o.op||(akZ m o||yV o.op)with|true=>VO (madeBy m o) r+1|false=>0
def ajN(m:List Nat)(o:Oper):List Nat:=match o.op,o.dst with
 |.call {callee:=.value (.func _),.. },some d=>d::m
 |_,_=>madeBy m o
def abq:List Nat->List Oper->Nat
 |_,[]=>0
 |m,o::r=>match ahr o.op||(akZ m o||yV o.op)with|true=>abq (ajN m o) r+1|false=>0
def VP:Nat->List Oper->List (Nat×Nat)
 |_,[]=>[]
 |i,o::r=>match o.op with
  |.call {callee:=.builtin .append,args,.. }=>match args.toList with
   |.tmp t::_=>(i,t*64+1)::VP (i+1) r
   |_=>VP (i+1) r
  |_=>VP (i+1) r
def amh(R:Reg):Bool:=R.A.all λx=>match idxOf R.D (x.2 / 64) 0 with
 |some j=>(R.ms.getD x.1 0).testBit j
 |none=>false
theorem ahs{e q:Nat}:∀(A:List (Nat×Nat)),Hf A e q=true->(e,q)∈A
 |[],h=>afH
 |(e',q')::r,h=>by
  rw[Hf]at h;split at h
  .next hb=>rw[auC]at hb;rw[auG hb.1,auG hb.2];exact auO
  .exact auM _ (ahs r h)
theorem ai4{R:Reg}(h:amh R=true)(e q:Nat)(hm:Hf R.A e q=true):∃j,idxOf R.D (q / 64) 0=some j/\(R.ms.getD e 0).testBit j=true:=by
 have:=auY.1 h _ (ahs _ hm);split at this
 .next j hj=>exact⟨j,hj,this⟩
 .cases this
def IG:Nat->List Nat->Bool
 |_,[]=>true
 |i,m::r=>Nat.beq (m+1) (2 ^ i)&&IG (i+1) r
def ami(t0:Nat)(ms:List Nat):List Nat:=(List.range t0).filter λj=>!((ms.drop t0).all λm=>m.testBit j)
def abr(ops:List Oper)(j i:Nat):Bool:=match ops[j]?,ops[i]? with
 |some f,some o=>passes f o
 |_,_=>false
def lateRow(ops:List Oper)(S:List Nat)(m i:Nat):Bool:=(List.range i).all λj=>m.testBit j||(aK S j&&abr ops j i)
def aht(ops:List Oper)(t0:Nat)(ms:List Nat)(S:List Nat):Bool:=
 (List.range ops.length).all λi=>match Nat.ble t0 i with
   |true=>Nat.blt (ms.getD i 0) (2 ^ i)&&lateRow ops S (ms.getD i 0) i
   |false=>match aK S i with
    |true=>S.all λj=>Nat.ble i j||((ms.getD i 0).testBit j||abr ops j i)
    |false=>true
def PN(ops:List Oper)(t0:Nat)(ms:List Nat):Bool:=match IG t0 (ms.drop t0)with
 |true=>true
 |false=>aht ops t0 ms (ami t0 ms)
def front(l:List Oper):Nat:=match PN l (VN [] l) (masks l [])with
 |true=>VN [] l
 |false=>match PN l (VO [] l) (masks l [])with|true=>VO [] l|false=>abq [] l
def ahu(l:List Oper):Bool:=l.all λo=>match o.guard with
 |some (g,_)=>match l[g]? with
  |some og=>og.dst.isSome
  |none=>false
 |none=>true
def ajO(n:Nat)(l:List Oper):Bool:=l.all λo=>match o.dst with|some d=>Nat.blt d n|none=>true
def abt(own:Nat->Bool):List Oper->List Nat
 |[]=>[]
 |o::r=>match ag3 o.op,o.dst with
  |true,some d=>match own d with|true=>abt own r|false=>d::abt own r
  |_,_=>abt own r
def adC(own:Nat->Bool)(l:List Oper)(s:St):St:=
 match abt own l with
 |[]=>s
 |z=>s.freeze λo=>aK z (o / 64)&&!(Nat.beq (o%64) 0)
def XH(d:Nat):List (Nat×Operand)->Bool
 |[]=>false
 |(_,.tmp t)::r=>Nat.beq t d||XH d r
 |_::r=>XH d r
def aqW(l:List Oper)(d:Nat):Bool:=l.any λb=>match b.op,b.dst with
 |.build _ ps,some e=>XH d ps.toList&&l.any λc=>match c.op with|.buildSlice _ _ qs=>XH e qs.toList|_=>false
 |_,_=>false
def Rl(l0:List Oper):List Oper->List Nat
 |[]=>[]
 |o::r=>match XG o.op,o.dst with
  |true,some d=>match aqW l0 d with|true=>d::Rl l0 r|false=>Rl l0 r
  |_,_=>Rl l0 r
def apf(own:Nat->Bool)(l:List Oper):List Nat:=(abt own l++Rl l l).filter λd=>!((VP 0 l).any λx=>Nat.beq x.2 (d*64+1))
def qC(n:Nat)(own:Nat->Bool)(Γ:kM)(U:List Nat)(ops:List Oper):Reg:=⟨dstsOf n 0 (ops.take (front ops)),U,masks ops [],PE Γ 0 (ops.take (front ops)),VP 0 (ops.take (front ops)),n,apf own (ops.take (front ops))⟩
def Nb(Θ:jm)(Γ:kM)(own:Nat->Bool)(U:List Nat)(ops:List Oper)(K:St->Prop)(st:St):Prop:=
 match nodup (qC st.n own Γ U ops).D&&(ajO st.n (ops.take (front ops))&&(PN ops (front ops) (qC st.n own Γ U ops).ms&&((qC st.n own Γ U ops).E.all (DL (qC st.n own Γ U ops).ms (qC st.n own Γ U ops).E)&&(amh (qC st.n own Γ U ops)&&ahu ops))))with
 |true=>tY Θ Γ (qC st.n own Γ U ops) (bJ (qC st.n own Γ U ops).D st) (λpath=>
   runs Θ Γ own ops K (ops.drop (front ops)) (adC own (ops.take (front ops)) (after (bJ (qC st.n own Γ U ops).D st) path λ_=>true))) 0 (ops.take (front ops)) []
 |false=>False
theorem ae7:∀(m:List Nat)(l:List Oper),VN m l<=l.length
 |_,[]=>auH _
 |m,o::r=>by
  rw[VN];split
  .have:=ae7 (madeBy m o) r;rw[auE];omega
  .exact auZ _
theorem ae8:∀(m:List Nat)(l:List Oper),VO m l<=l.length
 |_,[]=>auH _
 |m,o::r=>by
  rw[VO];split
  .have:=ae8 (madeBy m o) r;rw[auE];omega
  .exact auZ _
theorem ae9:∀(m:List Nat)(l:List Oper),abq m l<=l.length
 |_,[]=>auH _
 |m,o::r=>by
  rw[abq];split
  .have:=ae9 (ajN m o) r;rw[auE];omega
  .exact auZ _
theorem anB(l:List Oper):front l<=l.length:=by
 unfold front;split
 .exact ae7 [] l
 .split
  .exact ae8 [] l
  .exact ae9 [] l
theorem afT{l:List Oper}(h:ahu l=true){i:Nat}{o:Oper}{g:Nat}{b:Bool}(ho:l[i]? =some o)(hg:o.guard=some (g,b)):∃og d,l[g]? =some og/\og.dst=some d:=by
 have:=auY.1 h o (avk ho);rw[hg]at this;simp only at this;split at this
 .next og hog=>obtain⟨d,hd⟩:=Option.isSome_iff_exists.1 this;exact⟨og,d,hog,hd⟩
 .cases this
theorem ahv{n:Nat}{l:List Oper}(h:ajO n l=true){i:Nat}{o:Oper}{d:Nat}(ho:l[i]? =some o)(hd:o.dst=some d):d<n:=by have:=auY.1 h o (avk ho);rw[hd]at this;simpa[axj]using this
theorem YW:∀{l:List Nat}{k:Nat},IG k l=true->∀i m,l[i]? =some m->m+1=2 ^ (k+i)
 |[],_,_,i,m,hm=>by simp at hm
 |x::r,k,h,0,m,hm=>by
  rw[IG,auC]at h;simp at hm;subst hm;exact auG h.1
 |x::r,k,h,i+1,m,hm=>by rw[IG,auC]at h;have:=YW h.2 i m arX;rw[this];congr 1;omega
theorem VQ:∀(l:List Oper)(acc:List Nat),(masks l acc).length=acc.length+l.length
 |[],acc=>by simp[masks]
 |o::r,acc=>by rw[masks,VQ r];simp;omega
theorem abu:∀{l:List Nat},nodup l=true->∀(i j:Nat)(x:Nat),l[i]? =some x->l[j]? =some x->i=j
 |[],_,i,j,x,hi,_=>arP
 |y::r,h,i,j,x,hi,hj=>by
  rw[nodup,auC]at h;have hno:y ∉ r:=λhm=>by have:=sJ.2 hm;rw[this]at h;simp at h
  match i,j with
  |0,0=>rfl
  |0,j+1=>simp at hi hj;exact(hno (hi▸avk hj)).elim
  |i+1,0=>simp at hi hj;exact(hno (hj▸avk hi)).elim
  |i+1,j+1=>simp at hi hj;rw[abu h.2 i j x hi hj]
theorem JJ{n:Nat}:∀{l:List Oper}{k:Nat},(∀(i:Nat)(o:Oper),l[i]? =some o->∃d,rU n (k+i) o=some d)->∀(i:Nat)(o:Oper)(d:Nat),l[i]? =some o->rU n (k+i) o=some d->(dstsOf n k l)[i]? =some d
 |[],_,_,i,o,d,hi,_=>arP
 |x::r,k,h,i,o,d,hi,hd=>by
  obtain⟨e,he⟩:=h 0 x rfl;rw[av8]at he;rw[dstsOf,he]
  match i with
  |0=>simp at hi;subst hi;rw[av8,he]at hd;cases hd;rfl
  |i+1=>simp;exact JJ (k:=k+1) (λj o' hj=>by rw[show k+1+j=k+(j+1)from aaV];exact h (j+1) o' amH) i o d ah7 (by rw[show k+1+i=k+(i+1)from aaV];exact hd)
theorem ahw{ops:List Oper}{S:List Nat}{m i:Nat}(h:lateRow ops S m i=true){j:Nat}(hj:j<i){o f:Oper}(ho:ops[i]? =some o)(hf:ops[j]? =some f):m.testBit j=true\/(aK S j=true/\passes f o=true):=by have:=auY.1 h j (avq.2 hj);rw[avK,auC,abr,ho,hf]at this;exact this
theorem Ug{ops:List Oper}{t0:Nat}{ms S:List Nat}(h:aht ops t0 ms S=true){i:Nat}{o:Oper}(ho:ops[i]? =some o):
 (t0<=i->ms.getD i 0<2 ^ i)/\∀{j:Nat}{f:Oper},ops[j]? =some f->j<i->t0<=i\/(aK S i=true/\aK S j=true)->(ms.getD i 0).testBit j=true\/(aK S j=true/\passes f o=true):=by
 obtain⟨hi,_⟩:=auT.1 ho;have:=auY.1 h i (avq.2 hi);split at this
 .next hb=>rw[auC]at this;exact⟨λ_=>by simpa[axj]using this.1,λhf hj _=>ahw this.2 hj ho hf⟩
 .next hb=>
  have hlt:¬t0<=i:=λh'=>by rw[Nat.ble_eq_true_of_le h']at hb;cases hb
  refine⟨λh'=>(hlt h').elim,λ{j f} hf hj h'=>?_⟩;obtain⟨h1,h2⟩:=h'.resolve_left hlt;rw[h1]at this;have:=auY.1 this j (sJ.1 h2);rw[avK,avK,abr,ho,hf]at this;rcases this with h3|h3|h3
  .have:=avI h3;omega
  .exact .inl h3
  .exact .inr ⟨h2,h3⟩
theorem abv(L:Nat->Bool):∀(n:Nat),((List.range n).filter λi=>!(L i)).length=EP L n
 |0=>rfl
 |n+1=>by
  rw[axb,List.filter_append,auB,abv L n,EP];cases h:L n
  .simp[h,axy]
  .simp[h]
theorem ahx(L:Nat->Bool){t0:Nat}(h:∀i,t0<=i->L i=false):∀(n:Nat),t0<=n->EP L n=EP L t0+(n-t0)
 |0,hn=>by
  have:t0=0:=aaV;subst this;rfl
 |n+1,hn=>by
  rcases au2 n t0 with h'|h'
  .have:t0=n+1:=aaV;subst this;simp
  .rw[EP,h n h',ahx L h n h'];simp only;omega
structure XI(Θ:jm)(Γ:kM)(w0:World)(M:Nat->Prop)(T:Ext)(st:St)(R:Reg)(ops:Array Oper)(t0:Nat)(listed:Array Bool)(path:List dN)(γ:Nat->Value)(a:Act)(w:World):Prop where
 way:Way R ops t0 path
 size:listed.size=ops.size
 tail:∀i,t0<=i->listed.getD i false=false
 shut:∀i j,listed.getD i false=true->((masks ops.toList []).getD i 0).testBit j=true->listed.getD j false=true
 ok:∀j o x,ops[j]? =some o->path[j]? =some x->listed.getD j false=true->rD Θ Γ R (bJ R.D st) path j o x
 rel:Rel w0 M T γ (after (bJ R.D st) path λi=>listed.getD i false) a w
theorem amj{G:jT}(hE:ru P G Θ Γ w0 M){ops:Array Oper}{Q:Exit->Act->World->Prop}(hQ:∀c a w,¬Q (.panic c) a w)(hO:¬LetsOut Q){R:Reg}{t0:Nat}{K:List dN->Prop}(ht0:t0<=ops.size)(hms:R.ms=masks ops.toList [])
 (hRn:R.n=st.n) (hDn:∀i o d,ops[i]? =some o->i<t0->o.dst=some d->d<st.n) (hgd:∀i o g b,ops[i]? =some o->i<t0->o.guard=some (g,b)->∃og d,ops[g]? =some og/\og.dst=some d) (hcmp:∀e∈R.E,DL R.ms R.E e=true) (hEi:∀j o',ops[j]? =some o'->j<t0->yj Γ o'.op=true->j∈R.E)
 (hA:∀e q,Hf R.A e q=true->∃j,idxOf R.D (q / 64) 0=some j/\(R.ms.getD e 0).testBit j=true)
 (Rj:∀ext:List dN,ext.length<=t0->ZK Θ Γ R (bJ R.D st) (ops.toList.take t0) ext->(ext.length=t0->K ext)/\∀o,(ops.toList.take t0)[ext.length]? =some o->Enabled Θ Γ R (bJ R.D st) ext ext.length o)
 {S:Nat->Prop} (hfl:∀i o j f,ops[i]? =some o->ops[j]? =some f->j<i->t0<=i\/(S i/\S j)->((masks ops.toList []).getD i 0).testBit j=true\/(S j/\passes f o=true)) (hS:∀j,S j->j<t0)
 (hlt:∀i o,ops[i]? =some o->(masks ops.toList []).getD i 0<2 ^ i)
 (hend:∀path γ' a' w',K path->path.length=t0->Rel w0 M T γ' (after (bJ R.D st) path λ_=>true) a' w'->wpList P ops Q (ops.toList.drop t0) a' w'):
 ∀(fuel:Nat)(listed:Array Bool)(path:List dN)(γ:Nat->Value)(a:Act)(w:World),XI Θ Γ w0 M T st R ops t0 listed path γ a w->
  EP (λi=>listed.getD i false) ops.size<=fuel->wpAny P .any ops Q fuel listed a w:=by
 have QS:(ops.toList.take t0).length=t0:=aeV;have hget:∀j o,(ops.toList.take t0)[j]? =some o↔j<t0/\ops[j]? =some o:=λj o=>by
  rcases au2 j t0 with h|h
  .rw[avN h];simp[h]
  .rw[avF (by rw[QS];exact h)];constructor
   .intro h';cases h'
   .rintro⟨h',_⟩;omega
 have fin:∀(listed:Array Bool)(path:List dN)(γ:Nat->Value)(a:Act)(w:World),XI Θ Γ w0 M T st R ops t0 listed path γ a w->
  (∀i,i<t0->listed.getD i false=true)->wpList P ops Q (ops.toList.drop t0) a w:=by
  intro listed path γ a w I hdone;have hR:=I.rel;have hK:K path:=by refine(Rj path (by rw[I.way.len];exact auH _) λi o x hi hx=>?_).1 I.way.len;obtain⟨h1,h2⟩:=(hget i o).1 hi;exact I.ok i o x h2 hx (hdone i h1)
  have hsame:after (bJ R.D st) path (λi=>listed.getD i false)=after (bJ R.D st) path λ_=>true:=by
   unfold after;have:∀(l:List dN)(j:Nat),j+l.length<=t0->pick l j (λi=>listed.getD i false)=pick l j λ_=>true:=by
    intro l
    induction l with
    |nil=>intros;rfl
    |cons y l ih=>intro j hj;rw[pick,pick];simp only[auE]at hj;simp only[hdone j aaV];rw[ih (j+1) aaV]
   rw[this path 0 (by rw[I.way.len];omega)]
  rw[hsame]at hR;exact hend path γ a w hK I.way.len hR
 have step:∀(listed:Array Bool)(path:List dN)(γ:Nat->Value)(a:Act)(w:World),XI Θ Γ w0 M T st R ops t0 listed path γ a w->∀(i:Nat)(o:Oper),ops[i]? =some o->i<t0->listed.getD i false=false->
  (∀j,((masks ops.toList []).getD i 0).testBit j=true->listed.getD j false=true)->∀(K':Act->World->Prop),
  (∀path' γ' a' w',XI Θ Γ w0 M T st R ops t0 (listed.setIfInBounds i true) path' γ' a' w'->K' a' w')->wpOp P ops Q i K' a w:=by
  intro listed path γ a w I i o ho hit hil hsub K' hK';obtain⟨W,hsz,htl,hcl,hok,hR⟩:=I;have hen:Enabled Θ Γ R (bJ R.D st) path i o:=by
   obtain⟨ext,g1,g2,g3⟩:=fill hE.toEnvB (R:=R) (base:=bJ R.D st) (front:=ops.toList.take t0) (path:=path) (L:=λi=>listed.getD i false)
    (λext hc o' ho'=>(Rj ext (by obtain⟨hlt',_⟩:=auT.1 ho';rw[QS]at hlt';omega) hc).2 o' ho')
    (λj o' x ho' hx hL=>hok j o' x ((hget j o').1 ho').2 hx hL) (by rw[W.len,QS]) (λj k hL hk=>hcl j k hL (by rw[← hms];exact hk)) i (by rw[QS];omega)
   have:=(Rj ext aaV g2).2 o ((hget _ o).2 ⟨aaV,by rw[g1];exact ho⟩);rw[g1]at this;refine this.agree λj hj=>?_;rw[hms]at hj;have hji:j<i:=by
    rcases au2 j i with h|h
    .exact h
    .rw[oD (hlt i o ho) h]at hj;cases hj
   exact g3 j hji (hsub j hj)
  have hset:∀j,(listed.setIfInBounds i true).getD j false=(if j=i then true else listed.getD j false):=by
   intro j;split
   .next e=>subst e;simp[Array.getD,show j<listed.size from aaV]
   .next e=>exact getD_set_ne false (aww e)
  refine anx hE (L:=λi=>listed.getD i false) (L':=λj=>(listed.setIfInBounds i true).getD j false) W ht0 hit hRn hDn hgd hcmp hEi hA ho hen hok (λj k hL hk=>hcl j k hL (by rw[← hms];exact hk)) (λj hj=>hsub j (by rw[← hms];exact hj)) hil
   (by simp only[hset,if_true]) (λj hj=>by simp only[hset,if_neg hj]) hR ?_
  intro x γ' a' w' ⟨y,hy,hxy⟩ hx hR';refine hK' (path.set i x) γ' a' w' ⟨W.set hy hxy,by simpa using hsz,?_,?_,?_,hR'⟩
  .intro j hj;rw[hset,if_neg aaV];exact htl j hj
  .intro j k hj hk;rw[hset]at hj ⊢;split
   .rfl
   .split at hj
    .next e=>subst e;exact hsub k hk
    .exact hcl j k hj hk
  .intro j o' z ho' hz hL;obtain⟨aso,_⟩:=auT.1 hy;by_cases e:j=i
   .subst e;rw[avT aso]at hz;cases hz;rw[ho]at ho';cases ho';exact hx
   .rw[avy (aww e)]at hz;rw[hset,if_neg e]at hL;refine(hok j o' z ho' hz hL).agree λk hk=>?_;have hLk:=hcl j k hL (by rw[← hms];exact hk);have hki:i≠k:=λe=>by subst e;rw[hil]at hLk;cases hLk
    rw[avy hki]
 have pend:∀(F:List (Nat×Oper))(listed:Array Bool)(path:List dN)(γ:Nat->Value)(a:Act)(w:World),XI Θ Γ w0 M T st R ops t0 listed path γ a w->
  (∀x∈F,ops[x.1]? =some x.2/\x.1<t0)->F.Pairwise (λx y=>x.1<y.1)->(∀i,i<t0->(listed.getD i false=true↔∀x∈F,x.1≠i))->
  FU P ops Q (Q .normal) (F.map (·.2)++ops.toList.drop t0) a w:=by
  intro F
  induction F with
  |nil=>
   intro listed path γ a w I _ _ hL;rw[axA,avx,YV];exact fin listed path γ a w I λi hi=>(hL i hi).2 λx hx=>aeZ
  |cons x F ih=>
   intro listed path γ a w I hF hp hL;obtain⟨hx1,hx2⟩:=hF x auO;have hpx:=(awo.1 hp).1;have hun:listed.getD x.1 false=false:=by
    cases hb:listed.getD x.1 false with
    |false=>rfl
    |true=>exact((hL x.1 hx2).1 hb x auO rfl).elim
   refine(wpOp_step hx1).1 (step listed path γ a w I x.1 x.2 hx1 hx2 hun (λj hj=>?_) _ λpath' γ' a' w' I'=>?_)
   .have hjx:j<x.1:=by
     rcases au2 j x.1 with h|h
     .exact h
     .rw[oD (hlt x.1 x.2 hx1) h]at hj;cases hj
    refine(hL j aaV).2 λy hy=>?_;rcases auQ.1 hy with rfl|hy
    .omega
    .have:=hpx y hy;omega
   .refine ih _ path' γ' a' w' I' (λy hy=>hF y (auM _ hy)) (awo.1 hp).2 λi hi=>?_;have hxs:x.1<listed.size:=by rw[I.size];exact(auL.1 hx1).1
    by_cases e:i=x.1
    .subst e;refine⟨λ_ y hy=>by have:=hpx y hy;omega,λ_=>by simp[Array.getD,hxs]⟩
    .rw[getD_set_ne false (aww e),hL i hi];refine⟨λh y hy=>h y (auM _ hy),λh y hy=>?_⟩;rcases auQ.1 hy with rfl|hy
     .exactλe'=>e e'.symm
     .exact h y hy
 have late:∀(fuel:Nat)(listed:Array Bool)(path:List dN)(γ:Nat->Value)(a:Act)(w:World),XI Θ Γ w0 M T st R ops t0 listed path γ a w->EP (λi=>listed.getD i false) ops.size<=fuel->
  (∀i,i<t0->¬S i->listed.getD i false=true)->wpAny P .any ops Q fuel listed a w:=by
  intro fuel listed path γ a w I hf hd;have hcount:=ahx (λi=>listed.getD i false) I.tail ops.size ht0;have hlen:=abv (λi=>listed.getD i false) t0;have hmem:∀x,x∈((List.range t0).filter λi=>!(listed.getD i false)).map (λi=>(i,(ops[i]?).getD default))↔∃i,i<t0/\listed.getD i false=false/\(i,(ops[i]?).getD default)=x:=by intro x;simp only[avO,axc,avq,awg,and_assoc]
  have aqd:∀i,i<t0->ops[i]? =some ((ops[i]?).getD default):=λi hi=>by have:ops[i]? =some (ops[i]' aaV):=abZ;rw[this];rfl
  have aoL:(((List.range t0).filter λi=>!(listed.getD i false)).map (λi=>(i,(ops[i]?).getD default))).Pairwise (λx y=>x.1<y.1):=by rw[axL];exact(List.pairwise_lt_range (n:=t0)).filter _
  refine anz hQ hO hfl hS hlt fuel (((List.range t0).filter λi=>!(listed.getD i false)).map (λi=>(i,(ops[i]?).getD default))) (ops.toList.drop t0) t0 listed a w (auH _) ht0 (λj=>abZ) I.size ?_ aoL ?_ I.shut ?_ ?_
  .intro x hx;obtain⟨i,h1,h2,rfl⟩:=(hmem x).1 hx;refine⟨aqd i h1,avS λhno=>?_⟩;have:=hd i h1 hno;rw[h2]at this;cases this
  .intro i hi;refine⟨λh=>⟨?_,λx hx e=>?_⟩,λ⟨h1,h2⟩=>?_⟩
   .rcases au2 i t0 with h'|h'
    .exact h'
    .rw[I.tail i h']at h;cases h
   .obtain⟨j,_,h2,rfl⟩:=(hmem x).1 hx;subst e;rw[h2]at h;cases h
   .cases hb:listed.getD i false with
    |true=>rfl
    |false=>exact(h2 _ ((hmem _).2 ⟨i,h1,hb,rfl⟩) rfl).elim
  .rw[auV,hlen];omega
  .refine pend _ listed path γ a w I (λx hx=>?_) aoL λi hi=>⟨λh x hx e=>?_,λh=>?_⟩
   .obtain⟨i,h1,_,rfl⟩:=(hmem x).1 hx;exact⟨aqd i h1,h1⟩
   .obtain⟨j,_,h2,rfl⟩:=(hmem x).1 hx;subst e;rw[h2]at h;cases h
   .cases hb:listed.getD i false with
    |true=>rfl
    |false=>exact(h _ ((hmem _).2 ⟨i,hi,hb,rfl⟩) rfl).elim
 intro fuel
 induction fuel with
 |zero=>
  intro listed path γ a w I hf;have hall:∀i,i<ops.size->listed.getD i false=true:=ahn (L:=λi=>listed.getD i false) ops.size aaV;exact late 0 listed path γ a w I hf λi hi _=>hall i aaV
 |succ fuel ih=>
  intro listed path γ a w I hf;by_cases hdone:∀i,i<t0->¬S i->listed.getD i false=true
  .exact late (fuel+1) listed path γ a w I hf hdone
  .obtain⟨W,hsz,htl,hcl,hok,hR⟩:=id I;have hex:∃i,i<t0/\¬S i/\listed.getD i false=false:=by
    refine avS λhno=>hdone λi hi hn=>?_;cases hl:listed.getD i false with
    |true=>rfl
    |false=>exact(hno ⟨i,hi,hn,hl⟩).elim
   obtain⟨i1,hi1,hS1,hl1⟩:=hex;obtain⟨i0,hi0,hl0,hmin⟩:=least (p:=λi=>listed.getD i false=false) t0 ⟨i1,hi1,hl1⟩;have amk:i0∈Region.ready .any ops listed:=by
    have hisz:i0<ops.size:=aaV;refine BL.2 ⟨ops[i0],by simp[hisz],by rw[ER aaV];exact hl0,λe he hb=>?_⟩;have hoi:ops.toList[i0]? =some ops[i0]:=by simp[hisz]
    have abp:=ae1 hoi he hb;have anA:e.on<i0:=by
     rcases au2 e.on i0 with h|h
     .exact h
     .rw[oD (hlt i0 ops[i0] (by simp[hisz])) h]at abp;cases abp
    cases hl:listed.getD e.on false with
    |true=>rfl
    |false=>exact(hmin e.on anA hl).elim
   refine⟨λh=>(by rw[h]at amk;cases amk),λi hi=>?_⟩;obtain⟨o,ho,hn,hall⟩:=BL.1 hi;obtain⟨hisz,_⟩:=auL.1 ho;have hil:listed.getD i false=false:=by rw[← ER aaV];exact hn
   have hsub:=VL hcl ho hi;have hit:i<t0:=by
    rcases au2 i t0 with h|h
    .exact h
    .have ho1:ops[i1]? =some (ops[i1]' aaV):=abZ;rcases hfl i o i1 _ ho ho1 aaV (.inl h)with hb|hb
     .have:=hsub i1 hb;rw[hl1]at this;cases this
     .exact(hS1 hb.1).elim
   refine step listed path γ a w I i o ho hit hil hsub _ λpath' γ' a' w' I'=>ih _ path' γ' a' w' I' ?_;have hset:∀j,(listed.setIfInBounds i true).getD j false=(if j=i then true else listed.getD j false):=by
    intro j;split
    .next e=>subst e;simp[Array.getD,show j<listed.size from aaV]
    .next e=>exact getD_set_ne false (aww e)
   have:=ajL (L:=λi=>listed.getD i false) (L':=λj=>(listed.setIfInBounds i true).getD j false) (i:=i) hil (by simp only[hset,if_true]) (λj hj=>by simp only[hset,if_neg hj]) ops.size hisz;omega
theorem YX{ops:Array Oper}{t0:Nat}(h:IG t0 ((masks ops.toList []).drop t0)=true){i:Nat}{o:Oper}(ho:ops[i]? =some o)(hi:t0<=i):(masks ops.toList []).getD i 0+1=2 ^ i:=by
 obtain⟨hisz,_⟩:=auL.1 ho;have hml:(masks ops.toList []).length=ops.size:=by rw[VQ];simp
 have hg:((masks ops.toList []).drop t0)[i-t0]? =some ((masks ops.toList []).getD i 0):=by rw[avg,show t0+(i-t0)=i from aaV,auF,auJ aaV];rfl
 have:=YW h _ _ hg;rw[this];congr 1;omega
theorem alW{G:jT}(hE:ru P G Θ Γ w0 M)(hm:P.follows .mixedOrders=true){own:Nat->Bool}{U:List Nat}{id:Nat}{ops:Array Oper}{K:St->Prop}{Q:Exit->Act->World->Prop}(h:Rel w0 M T γ st a w)
 (hr:Nb Θ Γ own U ops.toList K st) (hn:∀s γ' a' w',K s->Rel w0 M T γ' s a' w'->Q .normal a' w'):(Code.region id ops true).wp P Q a w:=by
 unfold Nb at hr;split at hr
 case h_2=>exact hr.elim
 next hb=>
 rw[auC,auC,auC,auC]at hb;obtain⟨hnd,hlt,htl,hcmp,agu⟩:=hb;rw[auC]at agu;obtain⟨agu,apg⟩:=agu;have ht0:front ops.toList<=ops.size:=by simpa using anB ops.toList
 have hfl:(ops.toList.take (front ops.toList)).length=front ops.toList:=aeV;have Rj:=λ(ext:List dN)(hle:ext.length<=front ops.toList)(hc:ZK Θ Γ (qC st.n own Γ U ops.toList) (bJ (qC st.n own Γ U ops.toList).D st) (ops.toList.take (front ops.toList)) ext)=>
  YO (ops.toList.take (front ops.toList)) [] [] ext rfl (by rw[hfl];exact hle) hr arW
 simp only[avx,auI,au8,hfl]at Rj;have hall:∃ext:List dN,ext.length=front ops.toList/\ZK Θ Γ (qC st.n own Γ U ops.toList) (bJ (qC st.n own Γ U ops.toList).D st) (ops.toList.take (front ops.toList)) ext:=by
  obtain⟨ext,g1,g2,_⟩:=fill hE.toEnvB (R:=qC st.n own Γ U ops.toList) (base:=bJ (qC st.n own Γ U ops.toList).D st) (front:=ops.toList.take (front ops.toList)) (path:=List.replicate (front ops.toList) (skipped 0)) (L:=λ_=>false)
   (λext hc o' ho'=>(Rj ext (by obtain⟨hlt',_⟩:=auT.1 ho';rw[hfl]at hlt';omega) hc).2 o' ho') (λ_ _ _ _ _ h=>afH) (by simp[hfl]) (λ_ _ h=>afH) (front ops.toList) (by rw[hfl];exact auH _)
  exact⟨ext,g1,g2⟩
 obtain⟨aqe,hl0,hc0⟩:=hall;have aml:∀i,i<front ops.toList->∃o d,ops[i]? =some o/\(ops.toList.take (front ops.toList))[i]? =some o/\rU st.n i o=some d/\(qC st.n own Γ U ops.toList).ms.getD i 0<2 ^ i:=by
  intro i hi;have ho:ops[i]? =some (ops[i]' aaV):=abZ;have ho2:(ops.toList.take (front ops.toList))[i]? =some (ops[i]' aaV):=by rw[avN hi];simp
  have hx:aqe[i]? =some (aqe[i]' aaV):=abZ;obtain⟨h1,h2,_⟩:=hc0 i _ _ ho2 hx;exact⟨_,_,ho,ho2,h1,h2⟩
 have hdst:∀(i:Nat)(o:Oper),(ops.toList.take (front ops.toList))[i]? =some o->∃d,rU st.n (0+i) o=some d:=by intro i o ho;rw[au8];obtain⟨hi,_⟩:=auT.1 ho;obtain⟨o',d,_,h2,h3,_⟩:=aml i aaV;rw[ho]at h2;cases h2;exact⟨d,h3⟩
 have hbound:∀i o,ops[i]? =some o->front ops.toList<=i->(masks ops.toList []).getD i 0<2 ^ i:=by
  intro i o ho hi;unfold PN at htl;split at htl
  .next hb=>have:=YX (show IG _ ((masks ops.toList []).drop _)=true from hb) ho hi;omega
  .exact(Ug htl aqL).1 hi
 have aqX:∃S:Nat->Prop,(∀i o j f,ops[i]? =some o->ops[j]? =some f->j<i->front ops.toList<=i\/(S i/\S j)->((masks ops.toList []).getD i 0).testBit j=true\/(S j/\passes f o=true))/\∀j,S j->j<front ops.toList:=by
  unfold PN at htl;split at htl
  .next hb=>
   refine⟨λ_=>False,λi o j f ho _ hj hi=>.inl ?_,λ_ h=>h.elim⟩;rcases hi with hi|hi
   .have h1:=YX (show IG _ ((masks ops.toList []).drop _)=true from hb) ho hi;have h2:(masks ops.toList []).getD i 0=2 ^ i-1:=aaV;rw[h2,Nat.testBit_two_pow_sub_one];simpa using hj
   .exact hi.1.elim
  .refine⟨λj=>aK (ami (front ops.toList) (qC st.n own Γ U ops.toList).ms) j=true,λi o j f ho hf hj hi=>?_,λj hj=>?_⟩
   .exact(Ug htl aqL).2 (by simpa using hf) hj hi
   .have:=sJ.1 hj;exact avq.1 (axc.1 this).1
 obtain⟨S,asq,hS⟩:=aqX
 let ak0:List dN:=(ops.toList.take (front ops.toList)).mapIdx λi o=>skipped ((rU st.n i o).getD 0)
 have hp0:∀(i:Nat)(x:dN),ak0[i]? =some x->∃o,(ops.toList.take (front ops.toList))[i]? =some o/\rU st.n (0+i) o=some x.d:=by
  intro i x hx;have hx:((ops.toList.take (front ops.toList)).mapIdx λi o=>skipped ((rU st.n i o).getD 0))[i]? =some x:=hx;rw[List.getElem?_mapIdx]at hx;cases ho:(ops.toList.take (front ops.toList))[i]? with
  |none=>rw[ho]at hx;cases hx
  |some o=>rw[ho]at hx;obtain⟨d,hd⟩:=hdst i o ho;cases hx;rw[au8]at hd ⊢;exact⟨o,rfl,by simp[skipped,hd]⟩
 have W0:Way (qC st.n own Γ U ops.toList) ops (front ops.toList) ak0:=by
  refine⟨by show(List.mapIdx _ _).length=_;rw[List.length_mapIdx,hfl],λi o x ho hx=>?_,λx hx=>?_,λi j x y hx hy hxy=>?_,λi x hx=>?_⟩
  .obtain⟨o',h1,h2⟩:=hp0 i x hx;obtain⟨hi,_⟩:=auT.1 h1;rw[avN aaV]at h1;have:ops[i]? =some o':=apQ;rw[ho]at this;cases this;rw[au8]at h2;exact h2
  .obtain⟨i,hi⟩:=aw0 hx;obtain⟨o',h1,h2⟩:=hp0 i x hi;exact sJ.2 (abn _ 0 i h1 h2)
  .obtain⟨o1,h1,h2⟩:=hp0 i x hx;obtain⟨o2,h3,h4⟩:=hp0 j y hy;have g1:=JJ hdst i o1 x.d h1 h2;have g2:=JJ hdst j o2 y.d h3 h4;rw[← hxy]at g2;exact abu hnd i j x.d g1 g2
  .obtain⟨o1,h1,h2⟩:=hp0 i x hx;have:=ae5 _ 0 i x.d hnd (JJ hdst i o1 x.d h1 h2);rw[au8]at this;exact this
 refine Code.wp_mono (Q:=λe a' w'=>match e with|.normal=>∃s γ',K s/\Rel w0 M T γ' s a' w'|_=>False) (λe a' w' he=>?_) ?_
 .cases e with
  |normal=>obtain⟨s,γ',h1,h2⟩:=he;exact hn s γ' a' w' h1 h2
  |_=>exact he.elim
 refine wp_region_any hm ?_;refine amj (w0:=w0) (M:=M) (T:=T) hE (λ_ _ _ h=>h) (λ⟨_,_,h⟩=>h) (R:=qC st.n own Γ U ops.toList) (t0:=front ops.toList) ht0 rfl rfl ?_ (λi o g b ho _ hg=>by
  obtain⟨og,d,h1,h2⟩:=afT apg (i:=i) aqL hg;exact⟨og,d,apQ,h2⟩) (λe he=>auY.1 hcmp e he) ?_ (ai4 agu) Rj asq hS ?_ ?_ ops.size _ ak0 γ _ _
  ⟨W0,abZ,?_,?_,?_,?_⟩ ?_
 .intro i o d ho hi hd;exact ahv hlt (i:=i) (by rw[avN hi];simpa using ho) hd
 .intro j o' ho' hj he;have:=abo (Γ:=Γ) (ops.toList.take (front ops.toList)) 0 j o' (by rw[avN hj];simpa using ho') he;rw[au8]at this;exact this
 .intro i o ho;rcases au2 i (front ops.toList)with hi|hi
  .obtain⟨_,_,_,_,_,h⟩:=aml i hi;exact h
  .exact hbound i o ho hi
 .intro path γ' a' w' hK _ hR;have aqY:Rel w0 M T γ' (adC own (ops.toList.take (front ops.toList)) (after (bJ (qC st.n own Γ U ops.toList).D st) path λ_=>true)) a' w':=by
   unfold adC;split
   .exact hR
   .exact hR.freeze _
  exact JA hE (λs γ' a' w' h1 h2=>⟨s,γ',h1,h2⟩) _ _ _ _ _ aqY hK
 .intro i _;simp[Array.getD]
 .intro i j hi;exfalso;simp[Array.getD]at hi
 .intro j o x _ _ hi;exfalso;simp[Array.getD]at hi
 .have:=(h.drew (w.drawn+1))|>λh=>anu h (qC st.n own Γ U ops.toList).D;rw[akT (λi=>by simp[Array.getD])];exact this
 .have:∀n,EP (λi=>(Array.replicate ops.size false).getD i false) n<=n:=by
   intro n
   induction n with
   |zero=>exact auH _
   |succ n ih=>rw[EP];split<;>omega
  exact this _
end Go.Fw
