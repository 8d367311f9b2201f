import Derived.Test.YtlbkigkbmeckbaaGreatFwB
namespace Go.Fw
open Go
variable {P:Program} {w0:World} {M:Nat→Prop} {T:Ext} {γ γ':Nat→Value} {st:St} {a:Act} {w w':World} {Θ:gK} {Γ:aB}
structure fA where
 d:Nat
 v:AV
 u:List (Nat×aQ)
 δ:List (Nat×aQ)
 k:List Nat
def EW (acc:List Nat):List Edge→Nat
 |[]=>0
 |e::r=>match Region.binds .any e with
  |true=>(2 ^ e.on|||acc.getD e.on 0)|||EW acc r
  |false=>EW acc r
def masks:List Oper→List Nat→List Nat
 |[],acc=>acc
 |o::r,acc=>masks r (acc++[EW acc o.after.toList])
def pick:List fA→Nat→(Nat→Bool)→List fA
 |[],_,_=>[]
 |x::r,j,m=>match m j with|true=>x::pick r (j+1) m|false=>pick r (j+1) m
def BN:List fA→Nat→AV→AV
 |[],_,b=>b
 |x::r,t,b=>match Nat.beq t x.d with|true=>x.v|false=>BN r t b
def lookO:List fA→Nat→Option aQ→Option aQ
 |[],_,b=>b
 |x::r,o,b=>match look x.δ o with|some y=>some y|none=>lookO r o b
def qE:List fA→Nat→Option aQ
 |[],_=>none
 |x::r,o=>match qE r o with|some y=>some y|none=>look x.u o
def nP (base:St) (l:List fA):St:=
 {n:=base.n,tmps:=fun t=>BN l t (base.tmps t),ak:=fun o=>match qE l o with|some y=>some y|none=>lookO l o (base.ak o)}
def qp:List fA→List Nat
 |[]=>[]
 |x::r=>x.k++qp r
def yO (l:List Nat) (st:St):St:=match l with|[]=>st|l=>st.kill (bf l)
def after (base:St) (path:List fA) (m:Nat→Bool):St:=yO (qp (pick path 0 m)) (nP base (pick path 0 m))
def Cell.touch (S:Nat→Bool):Cell→Bool
 | .ref o=>S o
 |_=>false
def SV.touch (S:Nat→Bool):SV→Bool
 | .one c=>c.touch S
 | .agg cs=>cs.any (Cell.touch S)
def AV.touch (S:Nat→Bool):AV→Bool
 | .undef=>false
 | .sv v=>v.touch S
 | .pO vs=>vs.any (SV.touch S)
 | .cZ o _=>S o
 | .qR o _ _=>S o
 | .win o _ _=>S o
 | .uG _ _ _ _=>false
 | .dK cs _=>cs.any (Cell.touch S)
 | .fn _ caps=>caps.any fun cs=>cs.any (Cell.touch S)
def aQ.touch (S:Nat→Bool):aQ→Bool
 | .var cs=>cs.any (Cell.touch S)
 | .arr _ _ _ _=>false
def St.ah0 (st:St) (L:List Nat):St:=match L with
 |[]=>st
 |L=>{n:=st.n,tmps:=fun t=>match (st.tmps t).touch (bf L) with|true=> .undef|false=>st.tmps t,
      ak:=fun o=>match bf L o with|true=>none|false=>match st.ak o with|some x=>(match x.touch (bf L) with|true=>none|false=>some x)|none=>none}
def alc (ms:List Nat) (i:Nat):List (Nat×Nat)→List Nat
 |[]=>[]
 |(e,q)::r=>match Nat.beq e i||((ms.getD i 0).testBit e||(ms.getD e 0).testBit i) with|true=>alc ms i r|false=>q::alc ms i r
def JC:List (Nat×Nat)→Nat→Nat→Bool
 |[],_,_=>false
 |(e,q)::r,i,o=>match Nat.beq e i&&Nat.beq q o with|true=>true|false=>JC r i o
def ab9:Op→Bool
 | .call {callee:= .builtin .append, .. }=>true
 |_=>false
def CP:Op→Bool
 | .store _ _ _=>true
 |_=>false
def yC (n i:Nat) (o:Oper):Option Nat:=match o.dst with
 |some d=>some d
 |none=>match CP o.op with|true=>some (n+i)|false=>none
def dstsOf (n:Nat):Nat→List Oper→List Nat
 |_,[]=>[]
 |i,o::r=>match yC n i o with|some d=>d::dstsOf n (i+1) r|none=>dstsOf n (i+1) r
def nodup:List Nat→Bool
 |[]=>true
 |x::r=>!(bf r x)&&nodup r
def dw (D:List Nat) (st:St):St:=st.kill fun o=>bf D (o / 64)
def Fh (d:Nat) (δ:List (Nat×aQ)):Bool:=δ.all fun x=>Nat.beq (x.1 / 64) d
def St.hide (st:St) (U:List Nat):St:={st with ak:=fun o=>match bf U o with|true=>none|false=>st.ak o}
def BO (Γ:aB) (o:Op):Bool:=match o with
 | .call {callee:= .value (.func f), .. }=>match Γ f with|some (.eff _ _)=>true|_=>false
 | .store _ _ _=>true
 |_=>false
def SS (Γ:aB):Nat→List Oper→List Nat
 |_,[]=>[]
 |i,o::r=>match BO Γ o.op with|true=>i::SS Γ (i+1) r|false=>SS Γ (i+1) r
def Gj (ms:List Nat) (E:List Nat) (i:Nat):Bool:=E.all fun e=>Nat.beq e i||((ms.getD i 0).testBit e||(ms.getD e 0).testBit i)
def yc (st:St) (m:Mode) (x:AV):Option (Arg×Option Nat):=
 match m with
 | .val=>match tH st [x] with
   |some [a]=>some (a,none)
   |_=>none
 |m=>uf st m x
def AA (st:St):List Mode→List AV→Option (List Arg×List (Option Nat))
 |_,[]=>some ([],[])
 |ms,x::xs=>match yc st (ms.headD .val) x,AA st ms.tail xs with
  |some (a,o),some (as,os)=>some (a::as,o::os)
  |_,_=>none
def Arg.avR:Arg→Bool
 | .own _ _ _=>false
 |_=>true
def SX (Γ:aB) (st:St):Op→Option (Prop×KY×(List (Option Nat)×Bool))
 | .call {callee:= .value (.func f),args, .. }=>match Γ f with
   |some (.eff ms con)=>match AA st ms (handed st args.toList []) with
    |some (vs,os)=>match Ih (F9 ms (handed st args.toList []))||vs.all Arg.avR with
     |true=>match con vs with
      |some (p,ρ)=>some (p,ρ,(os,!(Ih (F9 ms (handed st args.toList [])))))
      |none=>none
     |false=>none
    |none=>none
   |_=>none
 |_=>none
def N9 (Θ:gK) (st:St):Op→Option (List (Nat×aQ))
 | .store t p x=>match st.ev x,Θ t,st.ev p with
   | .sv v,some ti, .cZ o off=>match Nat.beq v.cells.length ti.cells.len,st.ak o with
     |true,some (.var cs)=>match Nat.ble (off+v.cells.length) cs.length with
      |true=>some [(o, .var (splice cs off v.cells))]
      |false=>none
     |_,_=>none
   |_,_,_=>none
 |_=>none
def ar0 (D U:List Nat) (υ:List (Nat×aQ)):Bool:=υ.all fun y=>bf U y.1&&!(bf D (y.1 / 64))
def SY:List (Option Nat)→List Eff→Bool
 |[],_=>true
 |none::os,aW=>SY os aW.tail
 |some _::os,aW=>match aW.head? with|some (.var _)=>SY os aW.tail|_=>false
def Iz (D U:List Nat) (d:Nat) (st:St) (os:List (Option Nat)×Bool) (out:Out) (aW:List Eff):Option (AV×List (Nat×aQ)×List (Nat×aQ)):=
 match Cm os.1&&(Kr aW (out.take (d*64+1)).2&&(SY os.1 aW&&(Fh d (out.take (d*64+1)).2&&(!os.2||(out.made&&NT aW))))),qC st os.1 aW with
 |true,some υ=>match υ.all fun y=>bf U y.1&&!(bf D (y.1 / 64)) with
  |true=>some ((out.take (d*64+1)).1,υ,(out.take (d*64+1)).2)
  |false=>none
 |_,_=>none
structure Reg where
 D:List Nat
 U:List Nat
 ms:List Nat
 E:List Nat
 A:List (Nat×Nat)
 n:Nat
 F:List Nat
def sD (F:List Nat) (x:fA):fA:=match bf F x.d,x.v,x.u,x.δ with
 |true, .sv (.one (.ref q)),[],[(q', .arr e r l fr)]=>match Nat.beq q q' with
  |true=>⟨x.d, .sv (.one (.sl e r l fr)),[],[],x.k⟩
  |false=>x
 |_,_,_,_=>x
theorem uw (F:List Nat) (x:fA):(sD F x).d=x.d∧(sD F x).u=x.u∧(sD F x).k=x.k∧∀ y∈(sD F x).δ,y∈x.δ:=by
 unfold sD
 split
 · next q q' e r l fr _ hv hu hδ=>
   split
   · exact ⟨rfl,hu.symm,rfl,fun y hy=>by cases hy⟩
   · exact ⟨rfl,rfl,rfl,fun y hy=>hy⟩
 · exact ⟨rfl,rfl,rfl,fun y hy=>hy⟩
def idxOf:List Nat→Nat→Nat→Option Nat
 |[],_,_=>none
 |x::r,t,j=>match Nat.beq t x with|true=>some j|false=>idxOf r t (j+1)
def afp (R:Reg) (i t:Nat):Bool:=match idxOf R.D t 0 with
 |some j=>!(Nat.beq j i||((R.ms.getD i 0).testBit j||(R.ms.getD j 0).testBit i))
 |none=>false
def St.veil (st:St) (R:Reg) (i:Nat):St:={st with tmps:=fun t=>match afp R i t with|true=> .undef|false=>st.tmps t}
def viewAt (R:Reg) (base:St) (acc:List fA) (i:Nat):St:=
 ((match Gj R.ms R.E i with
 |true=>after base acc (R.ms.getD i 0).testBit
 |false=>(after base acc (R.ms.getD i 0).testBit).hide R.U).veil R i).ah0 (alc R.ms i R.A)
def Nv (Θ:gK) (Γ:aB) (R:Reg) (base:St) (i:Nat) (o:Oper) (d:Nat) (acc:List fA) (K:List fA→Prop):Prop:=
 match BO Γ o.op with
 |true=>match CP o.op with
  |true=>match N9 Θ (viewAt R base acc i) o.op with
   |some υ=>match ar0 R.D R.U υ with
    |true=>K (acc++[⟨d, .pO [],υ,[],[]⟩])
    |false=>False
   |none=>False
  |false=>match SX Γ (viewAt R base acc i) o.op with
   |some (p,ρ,os)=>p∧∀ t,ρ.R t→match Iz R.D R.U d (viewAt R base acc i) os (ρ.out t) (ρ.aW t) with
    |some (v,υ,δ)=>K (acc++[⟨d,v,υ,δ,[]⟩])
    |none=>False
   |none=>False
 |false=>match ab9 o.op with
  |true=>match Gg Θ (viewAt R base acc i) o.op with
   |some (p,q,x)=>match bf R.D (q / 64)&&(!(Nat.beq (q / 64) d)&&JC R.A i q) with
    |true=>p∧K (acc++[sD R.F ⟨d, .sv (.one (.ref (d*64+1))),[],[(d*64+1,x)],[q]⟩])
    |false=>False
   |none=>False
  |false=>match calm Θ Γ d (viewAt R base acc i) o.op with
   |some (p,v,δ)=>match Fh d δ,quiet (viewAt R base acc i) o.op with
    |true,true=>K (acc++[sD R.F ⟨d,v,[],δ,[]⟩])
    |true,false=>p∧K (acc++[sD R.F ⟨d,v,[],δ,[]⟩])
    |false,_=>False
   |none=>False
def fix (g:Nat) (b:Bool) (acc:List fA):List fA:=
 match acc[g]? with
 |some x=>acc.set g {x with v:= .sv (.one (.bool b))}
 |none=>acc
def skipped (d:Nat):fA:=⟨d, .pO [],[],[],[]⟩
def zn (Θ:gK) (Γ:aB) (R:Reg) (base:St) (K:List fA→Prop):Nat→List Oper→List fA→Prop
 |_,[],acc=>K acc
 |i,o::r,acc=>match yC R.n i o,Nat.blt (R.ms.getD i 0) (2 ^ i) with
  |some d,true=>match o.guard with
   |none=>Nv Θ Γ R base i o d acc (zn Θ Γ R base K (i+1) r)
   |some (g,b)=>match (R.ms.getD i 0).testBit g,acc[g]? with
    |true,some x=>match x.v with
     | .sv (.one (.bool c))=>cond c
       (match b with
         |true=>Nv Θ Γ R base i o d (fix g true acc) (zn Θ Γ R base K (i+1) r)
         |false=>zn Θ Γ R base K (i+1) r (fix g true acc++[skipped d]))
       (match b with
         |false=>Nv Θ Γ R base i o d (fix g false acc) (zn Θ Γ R base K (i+1) r)
         |true=>zn Θ Γ R base K (i+1) r (fix g false acc++[skipped d]))
     | .pO _=>zn Θ Γ R base K (i+1) r (acc++[skipped d])
     |_=>False
    |_,_=>False
  |_,_=>False
def Wanted (R:Reg) (path:List fA) (i:Nat) (o:Oper):Prop:=
 o.guard=none∨∃ g b y,o.guard=some (g,b)∧(R.ms.getD i 0).testBit g=true∧path[g]? =some y∧y.v= .sv (.one (.bool b))
def afq (R:Reg) (path:List fA) (i:Nat) (o:Oper):Prop:=
 ∃ g b y,o.guard=some (g,b)∧(R.ms.getD i 0).testBit g=true∧path[g]? =some y∧((∃ c,y.v= .sv (.one (.bool c))∧c≠b)∨∃ vs,y.v= .pO vs)
def xI (Θ:gK) (Γ:aB) (R:Reg) (base:St) (path:List fA) (i:Nat) (o:Oper) (x:fA):Prop:=
 yC R.n i o=some x.d∧(R.ms.getD i 0)<2 ^ i∧
 ((Wanted R path i o∧
    ((BO Γ o.op=false∧ab9 o.op=false∧∃ p v δ,calm Θ Γ x.d (viewAt R base path i) o.op=some (p,v,δ)∧p∧Fh x.d δ=true∧x=sD R.F ⟨x.d,v,[],δ,[]⟩)∨
     (BO Γ o.op=false∧ab9 o.op=true∧∃ p q y,Gg Θ (viewAt R base path i) o.op=some (p,q,y)∧p∧(bf R.D (q / 64)=true∧q / 64≠x.d∧JC R.A i q=true)∧
       x=sD R.F ⟨x.d, .sv (.one (.ref (x.d*64+1))),[],[(x.d*64+1,y)],[q]⟩)∨
     (BO Γ o.op=true∧CP o.op=true∧∃ υ,N9 Θ (viewAt R base path i) o.op=some υ∧ar0 R.D R.U υ=true∧x=⟨x.d, .pO [],υ,[],[]⟩)∨
     ((BO Γ o.op=true∧CP o.op=false)∧x.k=[]∧∃ p ρ os t,SX Γ (viewAt R base path i) o.op=some (p,ρ,os)∧p∧ρ.R t∧
        (∀ t,ρ.R t→∃ r,Iz R.D R.U x.d (viewAt R base path i) os (ρ.out t) (ρ.aW t)=some r)∧
        Iz R.D R.U x.d (viewAt R base path i) os (ρ.out t) (ρ.aW t)=some (x.v,x.u,x.δ))))∨
  (afq R path i o∧x=skipped x.d))
def Enabled (Θ:gK) (Γ:aB) (R:Reg) (base:St) (path:List fA) (i:Nat) (o:Oper):Prop:=
 ∃ d,yC R.n i o=some d∧(R.ms.getD i 0)<2 ^ i∧
 ((Wanted R path i o∧
    ((BO Γ o.op=false∧ab9 o.op=false∧∃ p v δ,calm Θ Γ d (viewAt R base path i) o.op=some (p,v,δ)∧p∧Fh d δ=true)∨
     (BO Γ o.op=false∧ab9 o.op=true∧∃ p q y,Gg Θ (viewAt R base path i) o.op=some (p,q,y)∧p∧(bf R.D (q / 64)=true∧q / 64≠d∧JC R.A i q=true))∨
     (BO Γ o.op=true∧CP o.op=true∧∃ υ,N9 Θ (viewAt R base path i) o.op=some υ∧ar0 R.D R.U υ=true)∨
     ((BO Γ o.op=true∧CP o.op=false)∧∃ p ρ os,SX Γ (viewAt R base path i) o.op=some (p,ρ,os)∧p∧
        ∀ t,ρ.R t→∃ r,Iz R.D R.U d (viewAt R base path i) os (ρ.out t) (ρ.aW t)=some r)))∨
  afq R path i o)
theorem aph {g:Nat} {b:Bool} {acc:List fA} {x:fA} (h:acc[g]? =some x) (hv:x.v= .sv (.one (.bool b))):fix g b acc=acc:=by
 unfold fix
 rw [h]
 obtain ⟨hlt,hx⟩:=List.getElem?_eq_some_iff.1 h
 refine List.ext_getElem? fun i=>?_
 by_cases hi:i=g
 · subst hi
   rw [List.getElem?_set_self hlt,h]
   cases x
   simp at hv
   simp [hv]
 · rw [List.getElem?_set_ne (Ne.symm hi)]
theorem amX:∀ (l:List fA) (j:Nat) (m:Nat→Bool),(∀ i,j≤i→m i=false)→pick l j m=[]
 |[],_,_,_=>rfl
 |x::r,j,m,h=>by rw [pick,h j (Nat.le_refl _)];exact amX r (j+1) m fun i hi=>h i (by omega)
theorem QD (r:List fA) (m:Nat→Bool):∀ (l:List fA) (j:Nat),pick (l++r) j m=pick l j m++pick r (j+l.length) m
 |[],j=>by simp [pick]
 |x::l,j=>by
  rw [List.cons_append,pick,pick,QD r m l (j+1),List.length_cons,show j+1+l.length=j+(l.length+1) by omega]
  cases m j<;>rfl
theorem MO {m:Nat→Bool}:∀ (l l':List fA) (j:Nat),(∀ i,m (j+i)=true→l[i]? =l'[i]?)→pick l j m=pick l' j m
 |[],[],_,_=>rfl
 |[],y::r,j,h=>by
  cases hm:m j with
  |true=>have:=h 0 (by simpa using hm);simp at this
  |false=>
   rw [pick,pick,hm]
   exact MO [] r (j+1) fun i hi=>by have:=h (i+1) (by rw [show j+(i+1)=j+1+i by omega];exact hi);simpa using this
 |x::l,[],j,h=>by
  cases hm:m j with
  |true=>have:=h 0 (by simpa using hm);simp at this
  |false=>
   rw [pick,pick,hm]
   exact MO l [] (j+1) fun i hi=>by have:=h (i+1) (by rw [show j+(i+1)=j+1+i by omega];exact hi);simpa using this
 |x::l,y::r,j,h=>by
  have ih:=MO l r (j+1) fun i hi=>by have:=h (i+1) (by rw [show j+(i+1)=j+1+i by omega];exact hi);simpa using this
  rw [pick,pick]
  cases hm:m j with
  |true=>have:=h 0 (by simpa using hm);simp at this;rw [this,ih]
  |false=>exact ih
theorem mP {m:Nat→Bool} {x:fA}:∀ (l:List fA) (j:Nat),x∈pick l j m↔∃ i,m (j+i)=true∧l[i]? =some x
 |[],j=>by simp [pick]
 |y::l,j=>by
  have ih:=mP (m:=m) (x:=x) l (j+1)
  have e:∀ i,j+1+i=j+(i+1):=fun i=>by omega
  rw [pick]
  cases hm:m j with
  |true=>
   simp only [List.mem_cons,ih]
   constructor
   · rintro (rfl|⟨i,h1,h2⟩)
     · exact ⟨0,by simpa using hm,rfl⟩
     · exact ⟨i+1,by rw [← e];exact h1,by simpa using h2⟩
   · rintro ⟨i,h1,h2⟩
     cases i with
     |zero=>simp at h2;exact .inl h2.symm
     |succ i=>exact .inr ⟨i,by rw [e];exact h1,by simpa using h2⟩
  |false=>
   simp only [ih]
   constructor
   · rintro ⟨i,h1,h2⟩;exact ⟨i+1,by rw [← e];exact h1,by simpa using h2⟩
   · rintro ⟨i,h1,h2⟩
     cases i with
     |zero=>rw [Nat.add_zero,hm] at h1;cases h1
     |succ i=>exact ⟨i,by rw [e];exact h1,by simpa using h2⟩
theorem sK {m i j:Nat} (h:m<2 ^ i) (hj:i≤j):m.testBit j=false:=
 Nat.testBit_lt_two_pow (Nat.lt_of_lt_of_le h (Nat.pow_le_pow_right (by decide) hj))
theorem Oa {R:Reg} {base:St} {l l':List fA} {i:Nat} (h:∀ j,(R.ms.getD i 0).testBit j=true→l[j]? =l'[j]?):viewAt R base l i=viewAt R base l' i:=by
 unfold viewAt after
 rw [MO l l' 0 fun j hj=>h j (by simpa using hj)]
theorem xI.agree {R:Reg} {base:St} {l l':List fA} {i:Nat} {o:Oper} {x:fA} (h:∀ j,(R.ms.getD i 0).testBit j=true→l[j]? =l'[j]?) (hr:xI Θ Γ R base l i o x):xI Θ Γ R base l' i o x:=by
 obtain ⟨h1,h2,h3⟩:=hr
 refine ⟨h1,h2,?_⟩
 rw [← Oa h]
 refine h3.imp (And.imp (Or.imp id ?_) id) (And.imp ?_ id)
 · rintro ⟨g,b,y,e1,e2,e3,e4⟩;exact ⟨g,b,y,e1,e2,h g e2▸e3,e4⟩
 · rintro ⟨g,b,y,e1,e2,e3,e4⟩;exact ⟨g,b,y,e1,e2,h g e2▸e3,e4⟩
theorem Enabled.agree {R:Reg} {base:St} {l l':List fA} {i:Nat} {o:Oper} (h:∀ j,(R.ms.getD i 0).testBit j=true→l[j]? =l'[j]?) (hr:Enabled Θ Γ R base l i o):Enabled Θ Γ R base l' i o:=by
 obtain ⟨d,h1,h2,h3⟩:=hr
 refine ⟨d,h1,h2,?_⟩
 rw [← Oa h]
 refine h3.imp (And.imp (Or.imp id ?_) id) ?_
 · rintro ⟨g,b,y,e1,e2,e3,e4⟩;exact ⟨g,b,y,e1,e2,h g e2▸e3,e4⟩
 · rintro ⟨g,b,y,e1,e2,e3,e4⟩;exact ⟨g,b,y,e1,e2,h g e2▸e3,e4⟩
theorem yP {l:List Nat} {x:Nat}:bf l x=true↔x∈l:=by
 induction l with
 |nil=>simp [bf]
 |cons y l ih=>
  rw [bf,List.mem_cons]
  cases hb:Nat.beq x y with
  |true=>simp [Nat.eq_of_beq_eq_true hb]
  |false=>
   simp only [ih]
   constructor
   · exact .inr
   · rintro (rfl|h)
     · simp at hb
     · exact h
theorem ah1 {n:Nat} {o:Oper} {d:Nat}:∀ (l:List Oper) (i j:Nat),l[j]? =some o→yC n (i+j) o=some d→d∈dstsOf n i l
 |[],_,_,ho,_=>by simp at ho
 |x::r,i,0,ho,hd=>by
  simp at ho;subst ho
  rw [Nat.add_zero] at hd
  rw [dstsOf,hd]
  exact List.mem_cons_self
 |x::r,i,j+1,ho,hd=>by
  have:=ah1 r (i+1) j (by simpa using ho) (by rw [show i+1+j=i+(j+1) by omega];exact hd)
  rw [dstsOf]
  split
  · exact List.mem_cons_of_mem _ this
  · exact this
def afr (Θ:gK) (Γ:aB) (R:Reg) (base:St) (ops:List Oper) (path:List fA):Prop:=
 ∀ i o x,ops[i]? =some o→path[i]? =some x→xI Θ Γ R base path i o x
theorem DI {acc ext:List fA} {j:Nat} (h:j<acc.length):(acc++ext)[j]? =acc[j]? :=List.getElem?_append_left h
theorem aef {R:Reg} {base:St} {K:List fA→Prop}:∀ (rest pre:List Oper) (acc ext:List fA),acc.length=pre.length→ext.length≤rest.length→
 zn Θ Γ R base K pre.length rest acc→afr Θ Γ R base (pre++rest) (acc++ext)→
 (ext.length=rest.length→K (acc++ext))∧∀ o,rest[ext.length]? =some o→Enabled Θ Γ R base (acc++ext) (pre.length+ext.length) o
 |[],pre,acc,ext,hl,hle,hr,hc=>by
  have:ext=[]:=by cases ext with|nil=>rfl|cons _ _=>simp at hle
  subst this
  rw [zn] at hr
  exact ⟨fun _=>by rw [List.append_nil];exact hr,fun o ho=>by simp at ho⟩
 |o::rest,pre,acc,ext,hl,hle,hr,hc=>by
  rw [zn] at hr
  split at hr
  case h_2=>exact hr.elim
  next d hd hm=>
  have hm':R.ms.getD pre.length 0<2 ^ pre.length:=by simpa [Nat.blt_eq] using hm
  have key:(Wanted R acc pre.length o∧Nv Θ Γ R base pre.length o d acc (zn Θ Γ R base K (pre.length+1) rest))∨
   (afq R acc pre.length o∧zn Θ Γ R base K (pre.length+1) rest (acc++[skipped d])):=by
   split at hr
   · next hg=>exact .inl ⟨.inl hg,hr⟩
   · next g b hg=>
     split at hr
     · next x hbit hx=>
       split at hr
       · next c hc'=>
         cases c
         · simp only [cond_false,aph hx hc'] at hr
           cases b
           · exact .inl ⟨.inr ⟨g,false,x,hg,hbit,hx,hc'⟩,hr⟩
           · exact .inr ⟨⟨g,true,x,hg,hbit,hx, .inl ⟨false,hc',by simp⟩⟩,hr⟩
         · simp only [cond_true,aph hx hc'] at hr
           cases b
           · exact .inr ⟨⟨g,false,x,hg,hbit,hx, .inl ⟨true,hc',by simp⟩⟩,hr⟩
           · exact .inl ⟨.inr ⟨g,true,x,hg,hbit,hx,hc'⟩,hr⟩
       · next vs hc'=>exact .inr ⟨⟨g,b,x,hg,hbit,hx, .inr ⟨vs,hc'⟩⟩,hr⟩
       · exact hr.elim
     · exact hr.elim
  have apj:∀ ext:List fA,∀ j,(R.ms.getD pre.length 0).testBit j=true→acc[j]? =(acc++ext)[j]? :=by
   intro ext j hj
   rcases Nat.lt_or_ge j acc.length with h|h
   · rw [DI h]
   · rw [sK hm' (by omega)] at hj;cases hj
  cases ext with
  |nil=>
   refine ⟨fun h=>by simp at h,fun o' ho'=>?_⟩
   have:o'=o:=by simpa using ho'.symm
   subst this
   rw [List.append_nil]
   simp only [List.length_nil,Nat.add_zero]
   refine ⟨d,hd,hm',?_⟩
   rcases key with ⟨hw,hs⟩|⟨hw,_⟩
   · refine .inl ⟨hw,?_⟩
     unfold Nv at hs
     split at hs
     · next he=>
      split at hs
      · next hst=>
       refine .inr (.inr (.inl ⟨he,hst,?_⟩))
       split at hs
       · next υ hυ=>
         split at hs
         · next hin=>exact ⟨υ,hυ,hin⟩
         · exact hs.elim
       · exact hs.elim
      · next hst=>
       refine .inr (.inr (.inr ⟨⟨he,hst⟩,?_⟩))
       split at hs
       · next p ρ os hrel=>
         refine ⟨p,ρ,os,hrel,hs.1,fun t ht=>?_⟩
         have:=hs.2 t ht
         split at this
         · next v υ δ hres=>exact ⟨_,hres⟩
         · exact this.elim
       · exact hs.elim
     · next he=>
       split at hs
       · next ha=>
         refine .inr (.inl ⟨he,ha,?_⟩)
         split at hs
         · next p q y happ=>
           split at hs
           · next hb=>
             rw [Bool.and_eq_true,Bool.and_eq_true] at hb
             exact ⟨p,q,y,happ,hs.1,hb.1,(fun e=>by rw [e,Nat.beq_refl] at hb;simp at hb),hb.2.2⟩
           · exact hs.elim
         · exact hs.elim
       · next ha=>
         refine .inl ⟨he,ha,?_⟩
         split at hs
         · next p v δ hcalm=>
           split at hs
           · next hn hq=>exact ⟨p,v,δ,hcalm,UN hcalm hq,hn⟩
           · next hn hq=>exact ⟨p,v,δ,hcalm,hs.1,hn⟩
           · exact hs.elim
         · exact hs.elim
   · exact .inr hw
  |cons x ext=>
   have hx:xI Θ Γ R base (acc++x::ext) pre.length o x:=by
    refine hc pre.length o x ?_ ?_
    · rw [List.getElem?_append_right (Nat.le_refl _)];simp
    · rw [← hl,List.getElem?_append_right (Nat.le_refl _)];simp
   obtain ⟨e1,_,e3⟩:=hx
   have hxd:x.d=d:=by rw [hd] at e1;exact (Option.some.inj e1).symm
   have awq:viewAt R base acc pre.length=viewAt R base (acc++x::ext) pre.length:=Oa (apj _)
   have hnext:zn Θ Γ R base K (pre.length+1) rest (acc++[x]):=by
    rcases key with ⟨hw,hs⟩|⟨hw,hs⟩
    · rcases e3 with ⟨_,e3⟩|⟨⟨g,b,y,f1,f2,f3,f4⟩,_⟩
      · rw [← awq,hxd] at e3
        unfold Nv at hs
        rcases e3 with ⟨he,ha,p,v,δ,hcalm,_,hn,hxx⟩|⟨he,ha,p,q,y,happ,_,_,hxx⟩|⟨he,hst,υ,hυ,hin,hxx⟩|⟨⟨he,hst⟩,hk,p,ρ,os,t,hrel,_,ht,_,hres⟩
        · rw [he,ha] at hs
          simp only [hcalm] at hs
          split at hs
          · rw [hxx];exact hs
          · rw [hxx];exact hs.2
          · exact hs.elim
        · rw [he,ha] at hs
          simp only [happ] at hs
          split at hs
          · rw [hxx];exact hs.2
          · exact hs.elim
        · rw [he,hst] at hs
          simp only [hυ,hin] at hs
          rw [hxx];exact hs
        · rw [he,hst] at hs
          simp only [hrel] at hs
          have h2:=hs.2 t ht
          simp only [hres] at h2
          have ex:x=⟨d,x.v,x.u,x.δ,[]⟩:=by cases x;simp at hxd hk;simp [hxd,hk]
          rw [ex];exact h2
      · exfalso
        rw [← apj _ g f2] at f3
        rcases hw with hw|⟨g',b',y',k1,k2,k3,k4⟩
        · rw [hw] at f1;cases f1
        · rw [f1] at k1;cases k1
          rw [f3] at k3;cases k3
          rcases f4 with ⟨c,f4,hne⟩|⟨vs,f4⟩
          · rw [f4] at k4;cases k4;exact hne rfl
          · rw [f4] at k4;cases k4
    · rcases e3 with ⟨hw',_⟩|⟨_,f1⟩
      · exfalso
        obtain ⟨g,b,y,k1,k2,k3,k4⟩:=hw
        rcases hw' with hw'|⟨g',b',y',l1,l2,l3,l4⟩
        · rw [hw'] at k1;cases k1
        · rw [k1] at l1;cases l1
          rw [← apj _ g l2,k3] at l3;cases l3
          rcases k4 with ⟨c,k4,hne⟩|⟨vs,k4⟩
          · rw [k4] at l4;cases l4;exact hne rfl
          · rw [k4] at l4;cases l4
      · rw [hxd] at f1
        rw [f1];exact hs
   have ih:=aef rest (pre++[o]) (acc++[x]) ext (by simp [hl]) (by simpa using hle) (by simpa using hnext) (by simpa using hc)
   simp only [List.append_assoc,List.singleton_append,List.length_append,List.length_cons,List.length_nil] at ih
   refine ⟨fun h=>ih.1 (by simpa using h),fun o' ho'=>?_⟩
   have:=ih.2 o' (by simpa using ho')
   rw [show pre.length+(0+1)+ext.length=pre.length+(ext.length+1) by omega] at this
   simpa using this
end Go.Fw
namespace Go.Fw
open Go
variable {P:Program} {w0:World} {M:Nat→Prop} {T:Ext} {γ γ':Nat→Value} {st:St} {a:Act} {w w':World} {Θ:gK} {Γ:aB}
theorem Gv (acc:List Nat) (j:Nat):∀ (es:List Edge),(EW acc es).testBit j=true↔∃ e∈es,Region.binds .any e=true∧(e.on=j∨(acc.getD e.on 0).testBit j=true)
 |[]=>by simp [EW]
 |e::r=>by
  rw [EW]
  cases hb:Region.binds .any e with
  |false=>
   simp only [Gv acc j r,List.mem_cons]
   constructor
   · rintro ⟨e',h1,h2⟩;exact ⟨e', .inr h1,h2⟩
   · rintro ⟨e',rfl|h1,h2⟩
     · rw [hb] at h2;cases h2.1
     · exact ⟨e',h1,h2⟩
  |true=>
   simp only [Nat.testBit_or,Bool.or_eq_true,Gv acc j r,List.mem_cons,Nat.testBit_two_pow,decide_eq_true_eq]
   constructor
   · rintro ((h|h)|⟨e',h1,h2⟩)
     · exact ⟨e, .inl rfl,hb, .inl h⟩
     · exact ⟨e, .inl rfl,hb, .inr h⟩
     · exact ⟨e', .inr h1,h2⟩
   · rintro ⟨e',rfl|h1,h2⟩
     · exact .inl h2.2
     · exact .inr ⟨e',h1,h2⟩
theorem UW:∀ (l:List Oper) (acc:List Nat) (i:Nat),i<acc.length→(masks l acc).getD i 0=acc.getD i 0
 |[],_,_,_=>rfl
 |o::r,acc,i,h=>by
  rw [masks,UW r _ i (by simp;omega)]
  simp [List.getD_eq_getElem?_getD,List.getElem?_append_left h]
theorem UX:∀ (l:List Oper) (acc:List Nat) (i:Nat) (o:Oper),l[i]? =some o→∃ acc',(masks l acc).getD (acc.length+i) 0=EW acc' o.after.toList∧
 (∀ j,j<acc'.length→(masks l acc).getD j 0=acc'.getD j 0)
 |[],_,_,_,h=>by simp at h
 |o::r,acc,0,o',h=>by
  simp at h;subst h
  refine ⟨acc,?_,fun j hj=>?_⟩
  · rw [masks,UW r _ _ (by simp)]
    simp [List.getD_eq_getElem?_getD]
  · rw [masks,UW r _ _ (by simp;omega)]
    simp [List.getD_eq_getElem?_getD,List.getElem?_append_left hj]
 |o::r,acc,i+1,o',h=>by
  obtain ⟨acc',h1,h2⟩:=UX r (acc++[EW acc o.after.toList]) i o' (by simpa using h)
  refine ⟨acc',?_,?_⟩
  · rw [masks,← h1];simp only [List.length_append,List.length_singleton];congr 1;omega
  · rw [masks];exact h2
theorem amY {ops:List Oper} {i:Nat} {o:Oper} (ho:ops[i]? =some o) {e:Edge} (he:e∈o.after) (hb:Region.binds .any e=true):((masks ops []).getD i 0).testBit e.on=true:=by
 obtain ⟨acc',h1,_⟩:=UX ops [] i o ho
 simp only [List.length_nil,Nat.zero_add] at h1
 rw [h1,Gv]
 exact ⟨e,by simpa using he,hb, .inl rfl⟩
theorem atd {ops:List Oper} {i:Nat} {o:Oper} (ho:ops[i]? =some o) {j:Nat} (hj:((masks ops []).getD i 0).testBit j=true):
 ∃ e∈o.after,Region.binds .any e=true∧(e.on=j∨((masks ops []).getD e.on 0).testBit j=true):=by
 obtain ⟨acc',h1,h2⟩:=UX ops [] i o ho
 simp only [List.length_nil,Nat.zero_add] at h1
 rw [h1,Gv] at hj
 obtain ⟨e,he,hb,hj⟩:=hj
 refine ⟨e,by simpa using he,hb,hj.imp id fun h=>?_⟩
 rcases Nat.lt_or_ge e.on acc'.length with hlt|hge
 · rw [h2 _ hlt];exact h
 · rw [List.getD_eq_getElem?_getD,List.getElem?_eq_none hge] at h;simp at h
def Hq (L:Nat→Bool):Nat→Nat
 |0=>0
 |n+1=>(match L n with|true=>0|false=>1)+Hq L n
theorem amZ {L L':Nat→Bool}:∀ (n:Nat),(∀ i,i<n→L i=L' i)→Hq L n=Hq L' n
 |0,_=>rfl
 |n+1,h=>by rw [Hq,Hq,h n (by omega),amZ n fun i hi=>h i (by omega)]
theorem aqY {L L':Nat→Bool} {i:Nat} (hi:L i=false) (hi':L' i=true) (h:∀ j,j≠i→L' j=L j):∀ (n:Nat),i<n→Hq L' n+1=Hq L n
 |0,hn=>by omega
 |n+1,hn=>by
  rw [Hq,Hq]
  by_cases e:n=i
  · subst e
    rw [hi,hi',amZ (L:=L') (L':=L) n fun j hj=>h j (by omega)]
    simp only;omega
  · have:=aqY hi hi' h n (by omega)
    rw [h n e];omega
theorem apk {L:Nat→Bool}:∀ (n:Nat),Hq L n=0→∀ i,i<n→L i=true
 |0,_,i,hi=>by omega
 |n+1,h,i,hi=>by
  rw [Hq] at h
  cases hl:L n with
  |false=>simp only [hl] at h;omega
  |true=>
   by_cases e:i=n
   · rw [e];exact hl
   · exact apk n (by simp only [hl] at h;omega) i (by omega)
theorem least {p:Nat→Prop} [DecidablePred p]:∀ (n:Nat),(∃ i,i<n∧p i)→∃ i,i<n∧p i∧∀ j,j<i→¬ p j:=by
 intro n
 induction n using Nat.strongRecOn with
 |_ n ih=>
  rintro ⟨i,hi,hp⟩
  by_cases h:∃ j,j<i∧p j
  · obtain ⟨j,hj,h1,h2⟩:=ih i hi h
    exact ⟨j,by omega,h1,h2⟩
  · exact ⟨i,hi,hp,fun j hj hpj=>h ⟨j,hj,hpj⟩⟩
structure Fits (D U:List Nat) (l:List fA):Prop where
 one:∀ x∈l,∀ y∈l,x.d=y.d→x=y
 mem:∀ x∈l,bf D x.d=true
 new:∀ x∈l,Fh x.d x.δ=true
 upd:∀ x∈l,∀ o y,look x.u o=some y→bf U o=true∧bf D (o / 64)=false
theorem yQ {d:Nat} {δ:List (Nat×aQ)} (h:Fh d δ=true) {o:Nat} {y:aQ} (hl:look δ o=some y):o / 64=d:=
 Nat.eq_of_beq_eq_true (List.all_eq_true.1 h _ (zJ δ o y hl))
theorem UY {t:Nat} {b:AV}:∀ (l:List fA),(∀ x∈l,x.d≠t)→BN l t b=b
 |[],_=>rfl
 |x::r,h=>by
  rw [BN]
  have:Nat.beq t x.d=false:=by
   cases hb:Nat.beq t x.d with
   |false=>rfl
   |true=>exact (h x List.mem_cons_self (Nat.eq_of_beq_eq_true hb).symm).elim
  rw [this]
  exact UY r fun y hy=>h y (List.mem_cons_of_mem _ hy)
theorem PW {b:AV} {x:fA}:∀ (l:List fA),x∈l→(∀ y∈l,x.d=y.d→x=y)→BN l x.d b=x.v
 |[],h,_=>by cases h
 |y::r,h,hu=>by
  rw [BN]
  cases hb:Nat.beq x.d y.d with
  |true=>rw [hu y List.mem_cons_self (Nat.eq_of_beq_eq_true hb)]
  |false=>
   rcases List.mem_cons.1 h with rfl|h
   · simp at hb
   · exact PW r h fun z hz=>hu z (List.mem_cons_of_mem _ hz)
theorem MP {o:Nat} {b:Option aQ}:∀ (l:List fA),(∀ x∈l,look x.δ o=none)→lookO l o b=b
 |[],_=>rfl
 |x::r,h=>by
  rw [lookO,h x List.mem_cons_self]
  exact MP r fun y hy=>h y (List.mem_cons_of_mem _ hy)
theorem ZQ {o:Nat} {b:Option aQ} {x:fA} {z:aQ}:∀ (l:List fA),x∈l→look x.δ o=some z→(∀ y∈l,∀ z',look y.δ o=some z'→x=y)→lookO l o b=some z
 |[],h,_,_=>by cases h
 |y::r,h,hz,hu=>by
  rw [lookO]
  cases hy:look y.δ o with
  |some z'=>have:=hu y List.mem_cons_self z' hy;subst this;rw [hz] at hy;exact hy.symm
  |none=>
   rcases List.mem_cons.1 h with rfl|h
   · rw [hz] at hy;cases hy
   · exact ZQ r h hz fun w hw=>hu w (List.mem_cons_of_mem _ hw)
theorem Fj {o:Nat}:∀ (l:List fA),(∀ x∈l,look x.u o=none)→qE l o=none
 |[],_=>rfl
 |x::r,h=>by
  rw [qE,Fj r fun y hy=>h y (List.mem_cons_of_mem _ hy)]
  exact h x List.mem_cons_self
theorem Ob {o:Nat} (r:List fA):∀ (l:List fA),qE (l++r) o=match qE r o with|some y=>some y|none=>qE l o
 |[]=>by simp only [List.nil_append,qE];cases qE r o<;>rfl
 |x::l=>by
  rw [List.cons_append,qE,Ob r l,qE]
  cases qE r o<;>rfl
theorem aeg {o:Nat} {m m':Nat→Bool}:∀ (l:List fA) (j:Nat),(∀ i x,l[i]? =some x→x.u≠[]→m (j+i)=m' (j+i))→qE (pick l j m) o=qE (pick l j m') o
 |[],_,_=>rfl
 |x::r,j,h=>by
  have ih:=aeg (o:=o) (m:=m) (m':=m') r (j+1) (fun i y hi hy=>by
   have:=h (i+1) y (by simpa using hi) hy
   rwa [show j+(i+1)=j+1+i by omega] at this)
  have h0:=h 0 x rfl
  rw [Nat.add_zero] at h0
  rw [pick,pick]
  cases hm:m j<;>cases hm':m' j
  · exact ih
  · have hx:x.u=[]:=Classical.byContradiction fun e=>by have:=h0 e;rw [hm,hm'] at this;cases this
    simp only [qE,hx,look]
    rw [ih]
    cases qE (pick r (j+1) m') o<;>rfl
  · have hx:x.u=[]:=Classical.byContradiction fun e=>by have:=h0 e;rw [hm,hm'] at this;cases this
    simp only [qE,hx,look]
    rw [ih]
    cases qE (pick r (j+1) m') o<;>rfl
  · simp only [qE,ih]
theorem aeh {x:fA} {t:Nat} {b:AV} (r:List fA):∀ (l:List fA),(∀ y∈l,y.d≠x.d)→BN (l++x::r) t b=match Nat.beq t x.d with|true=>x.v|false=>BN (l++r) t b
 |[],_=>by simp only [List.nil_append,BN]<;>rfl
 |y::l,h=>by
  rw [List.cons_append,List.cons_append,BN,aeh r l fun z hz=>h z (List.mem_cons_of_mem _ hz),BN]
  cases hb:Nat.beq t y.d with
  |false=>rfl
  |true=>
   have:Nat.beq t x.d=false:=by
    cases hb2:Nat.beq t x.d with
    |false=>rfl
    |true=>exact (h y List.mem_cons_self ((Nat.eq_of_beq_eq_true hb).symm.trans (Nat.eq_of_beq_eq_true hb2))).elim
   rw [this]
theorem aei {x:fA} {o:Nat} {b:Option aQ} (r:List fA):∀ (l:List fA),(∀ y∈l,∀ z z',look y.δ o=some z→look x.δ o=some z'→False)→
 lookO (l++x::r) o b=match look x.δ o with|some y=>some y|none=>lookO (l++r) o b
 |[],_=>by simp only [List.nil_append,lookO]<;>(cases look x.δ o<;>rfl)
 |y::l,h=>by
  rw [List.cons_append,List.cons_append,lookO,aei r l fun z hz=>h z (List.mem_cons_of_mem _ hz),lookO]
  cases hy:look y.δ o with
  |none=>rfl
  |some z=>
   cases hx:look x.δ o with
   |none=>rfl
   |some z'=>exact (h y List.mem_cons_self z z' hy hx).elim
theorem aqm {base:St} {D U:List Nat} {l r:List fA} {x:fA} (hf:Fits D U (l++x::r)) (hne:∀ y∈l++r,y.d≠x.d) (hu:x.u≠[]→∀ y∈r,y.u=[]):
 (((nP base (l++r)).adds x.u).adds x.δ).set x.d x.v=nP base (l++x::r):=by
 have hx:x∈l++x::r:=by simp
 have hsub:∀ y∈l++r,y∈l++x::r:=fun y hy=>by
  rcases List.mem_append.1 hy with h|h
  · exact List.mem_append_left _ h
  · exact List.mem_append_right _ (List.mem_cons_of_mem _ h)
 have e1:(((nP base (l++r)).adds x.u).adds x.δ).set x.d x.v={n:=base.n,tmps:=fun t=>match Nat.beq t x.d with|true=>x.v|false=>BN (l++r) t (base.tmps t),ak:=(((nP base (l++r)).adds x.u).adds x.δ).ak}:=by
  rw [SA,SA (nP base (l++r)) x.u];rfl
 rw [e1]
 unfold nP
 congr 1
 · funext t
   rw [aeh r l fun y hy=>hne y (List.mem_append_left _ hy)]
 · funext o
   rw [pX,pX]
   have hO:=aei (x:=x) (o:=o) (b:=base.ak o) r l fun y hy z z' hz hz'=>hne y (List.mem_append_left _ hy) ((yQ (hf.new y (hsub y (List.mem_append_left _ hy))) hz).symm.trans (yQ (hf.new x hx) hz'))
   have hU:qE (l++x::r) o=match look x.u o with|some y=>some y|none=>qE (l++r) o:=by
    rw [Ob,Ob,qE]
    by_cases hxu:x.u=[]
    · rw [hxu,look]
      cases qE r o<;>rfl
    · rw [Fj r fun y hy=>by rw [hu hxu y hy];rfl]
   rw [hO,hU]
   cases hδ:look x.δ o with
   |none=>cases look x.u o<;>rfl
   |some z=>
    have hod:bf D (o / 64)=true:=by rw [yQ (hf.new x hx) hδ];exact hf.mem x hx
    have nou:∀ y∈l++x::r,look y.u o=none:=fun y hy=>by
     cases hl:look y.u o with
     |none=>rfl
     |some w=>have:=(hf.upd y hy o w hl).2;rw [hod] at this;cases this
    rw [nou x hx,Fj (l++r) fun y hy=>nou y (hsub y hy)]
theorem qF {o:Nat}:∀ (l:List fA),bf (qp l) o=true↔∃ x∈l,o∈x.k
 |[]=>by simp [qp,bf]
 |x::r=>by
  rw [yP,qp,List.mem_append,← yP (l:=qp r),qF r]
  constructor
  · rintro (h|⟨y,hy,h⟩)
    · exact ⟨x,List.mem_cons_self,h⟩
    · exact ⟨y,List.mem_cons_of_mem _ hy,h⟩
  · rintro ⟨y,hy,h⟩
    rcases List.mem_cons.1 hy with rfl|hy
    · exact .inl h
    · exact .inr ⟨y,hy,h⟩
theorem Cell.CQ {S:Nat→Bool} (h:∀ o,S o=false):∀ (c:Cell),c.kill S=c
 | .int _ _| .bool _| .str _| .nil| .sl _ _ _ _| .junk=>rfl
 | .ref o=>by simp only [Cell.kill,h o]
theorem Cell.wM {S S' S2:Nat→Bool} (h:∀ o,S2 o=(S o||S' o)):∀ (c:Cell),(c.kill S).kill S'=c.kill S2
 | .int _ _| .bool _| .str _| .nil| .sl _ _ _ _| .junk=>rfl
 | .ref o=>by
   simp only [Cell.kill,h o]
   cases S o
   · simp only [Bool.false_or]
   · rfl
theorem EG {S S' S2:Nat→Bool} (h:∀ o,S2 o=(S o||S' o)) (cs:List Cell):(cs.map (Cell.kill S)).map (Cell.kill S')=cs.map (Cell.kill S2):=by
 rw [List.map_map]
 exact List.map_congr_left fun c _=>Cell.wM h c
theorem SV.wM {S S' S2:Nat→Bool} (h:∀ o,S2 o=(S o||S' o)):∀ (c:SV),(c.kill S).kill S'=c.kill S2
 | .one c=>by simp only [SV.kill,Cell.wM h]
 | .agg cs=>by simp only [SV.kill,EG h]
theorem AV.wM {S S' S2:Nat→Bool} (h:∀ o,S2 o=(S o||S' o)):∀ (c:AV),(c.kill S).kill S'=c.kill S2
 | .undef=>rfl
 | .sv v=>by simp only [AV.kill,SV.wM h]
 | .pO vs=>by
   simp only [AV.kill]
   rw [List.map_map,List.map_congr_left fun c _=>(show ((SV.kill S') ∘ (SV.kill S)) c=SV.kill S2 c from SV.wM h c)]
 | .cZ o off=>by
   simp only [AV.kill,h o]
   cases S o
   · simp only [Bool.false_or]
   · rfl
 | .qR o i off=>by
   simp only [AV.kill,h o]
   cases S o
   · simp only [Bool.false_or]
   · rfl
 | .win o i off=>by
   simp only [AV.kill,h o]
   cases S o
   · simp only [Bool.false_or]
   · rfl
 | .uG _ _ _ _=>rfl
 | .dK cs off=>by simp only [AV.kill,EG h]
 | .fn g caps=>by
   simp only [AV.kill]
   rw [List.map_map,List.map_congr_left fun c _=>(show ((List.map (Cell.kill S')) ∘ (List.map (Cell.kill S))) c=List.map (Cell.kill S2) c from EG h c)]
theorem aQ.wM {S S' S2:Nat→Bool} (h:∀ o,S2 o=(S o||S' o)):∀ (c:aQ),(c.kill S).kill S'=c.kill S2
 | .var cs=>by simp only [aQ.kill,EG h]
 | .arr _ _ _ _=>rfl
theorem St.wM {S S' S2:Nat→Bool} (h:∀ o,S2 o=(S o||S' o)) (st:St):(st.kill S).kill S'=st.kill S2:=by
 simp only [St.kill,St.mk.injEq,true_and]
 refine ⟨funext fun t=>AV.wM h _,funext fun o=>?_⟩
 simp only [h o]
 cases S' o with
 |true=>cases S o<;>rfl
 |false=>
  cases S o with
  |true=>rfl
  |false=>
   simp only [Bool.or_false]
   cases st.ak o with
   |none=>rfl
   |some y=>simp only [Option.map_some,aQ.wM h]
theorem Gw {S:Nat→Bool} (h:∀ o,S o=false) (cs:List Cell):cs.map (Cell.kill S)=cs:=by
 rw [show Cell.kill S=id from funext (Cell.CQ h),List.map_id]
theorem SV.CQ {S:Nat→Bool} (h:∀ o,S o=false):∀ (c:SV),c.kill S=c
 | .one c=>by simp only [SV.kill,Cell.CQ h]
 | .agg cs=>by simp only [SV.kill,Gw h]
theorem AV.CQ {S:Nat→Bool} (h:∀ o,S o=false):∀ (c:AV),c.kill S=c
 | .undef=>rfl
 | .sv v=>by simp only [AV.kill,SV.CQ h]
 | .pO vs=>by simp only [AV.kill];rw [show SV.kill S=id from funext (SV.CQ h),List.map_id]
 | .cZ o off=>by simp only [AV.kill,h o]
 | .qR o i off=>by simp only [AV.kill,h o]
 | .win o i off=>by simp only [AV.kill,h o]
 | .uG _ _ _ _=>rfl
 | .dK cs off=>by simp only [AV.kill,Gw h]
 | .fn g caps=>by simp only [AV.kill];rw [show List.map (Cell.kill S)=id from funext (Gw h),List.map_id]
theorem aQ.CQ {S:Nat→Bool} (h:∀ o,S o=false):∀ (c:aQ),c.kill S=c
 | .var cs=>by simp only [aQ.kill,Gw h]
 | .arr _ _ _ _=>rfl
theorem St.CQ {S:Nat→Bool} (h:∀ o,S o=false) (st:St):st.kill S=st:=by
 cases st with
 |mk n t o=>
  simp only [St.kill,St.mk.injEq,true_and]
  refine ⟨funext fun q=>AV.CQ h _,funext fun q=>?_⟩
  simp only [h q]
  cases o q with
  |none=>rfl
  |some y=>simp only [Option.map_some,aQ.CQ h]
theorem o9 (l:List Nat) (st:St):yO l st=st.kill (bf l):=by
 cases l with
 |nil=>exact (St.CQ (fun _=>rfl) st).symm
 |cons=>rfl
theorem Rel.yO (h:Rel w0 M T γ st a w) (l:List Nat):Rel w0 M T γ (yO l st) a w:=by
 rw [o9];exact h.kill _
theorem Cell.zM {X:V} {S:Nat→Bool} (h:∀ o,S o=true→X.ak o=none):∀ (c:Cell) (v:Value),bC X c v→c.kill S=c
 | .int _ _,_,_| .bool _,_,_| .str _,_,_| .nil,_,_| .sl _ _ _ _,_,_| .junk,_,_=>rfl
 | .ref o,v,⟨⟨e,r,l,fr,ho⟩,_⟩=>by
   simp only [Cell.kill]
   cases hs:S o with
   |false=>rfl
   |true=>rw [h o hs] at ho;cases ho
theorem CS {X:V} {S:Nat→Bool} (h:∀ o,S o=true→X.ak o=none):∀ (cs:List Cell) (vs:List Value),ax X cs vs→cs.map (Cell.kill S)=cs
 |[],[],_=>rfl
 |c::cs,v::vs,H=>by rw [List.map_cons,Cell.zM h c v H.1,CS h cs vs H.2]
 |[],_::_,H|_::_,[],H=>by cases H
theorem SV.zM {X:V} {S:Nat→Bool} (h:∀ o,S o=true→X.ak o=none):∀ (c:SV) (v:Value),eP X c v→c.kill S=c
 | .one c,v,H=>by rw [SV.kill,Cell.zM h c v H]
 | .agg cs,v,⟨vs,_,H⟩=>by rw [SV.kill,CS h cs _ H]
theorem ZR {X:V} {S:Nat→Bool} (h:∀ o,S o=true→X.ak o=none):∀ (cs:List SV) (vs:List Value),eX X cs vs→cs.map (SV.kill S)=cs
 |[],[],_=>rfl
 |c::cs,v::vs,H=>by rw [List.map_cons,SV.zM h c v H.1,ZR h cs vs H.2]
 |[],_::_,H|_::_,[],H=>by cases H
theorem WV {X:V} {S:Nat→Bool} (h:∀ o,S o=true→X.ak o=none):∀ (l:List (List Cell)) (us:List Value),fJ X l us→l.map (List.map (Cell.kill S))=l
 |[],[],_=>rfl
 |cs::l,u::us,⟨⟨b,_,arr,t,fz,_,_,H⟩,H2⟩=>by rw [List.map_cons,CS h cs _ H,WV h l us H2]
 |[],_::_,H|_::_,[],H=>by cases H
theorem AV.zM {X:V} {S:Nat→Bool} (h:∀ o,S o=true→X.ak o=none):∀ (c:AV) (v:Value),bI X c v→c.kill S=c
 | .undef,_,_=>rfl
 | .sv x,v,H=>by rw [AV.kill,SV.zM h x v H]
 | .pO xs,v,⟨vs,_,H⟩=>by rw [AV.kill,ZR h xs _ H]
 | .cZ o off,v,⟨b,cs,ho,_⟩=>by
   simp only [AV.kill]
   cases hs:S o with
   |false=>rfl
   |true=>rw [h o hs] at ho;cases ho
 | .qR o i off,v,⟨b,n,cap,e,r,l,fr,ho,_⟩=>by
   simp only [AV.kill]
   cases hs:S o with
   |false=>rfl
   |true=>rw [h o hs] at ho;cases ho
 | .win o i off,v,⟨b,n,cap,e,r,l,fr,ho,_⟩=>by
   simp only [AV.kill]
   cases hs:S o with
   |false=>rfl
   |true=>rw [h o hs] at ho;cases ho
 | .uG _ _ _ _,_,_=>rfl
 | .dK cs off,v,⟨b,_,arr,t,fz,_,_,H⟩=>by rw [AV.kill,CS h cs _ H]
 | .fn f caps,v,⟨us,_,H⟩=>by rw [AV.kill,WV h caps _ H]
theorem aQ.zM {X:V} {S:Nat→Bool} (h:∀ o,S o=true→X.ak o=none) {o:Nat}:∀ (x:aQ),bV X o x→x.kill S=x
 | .var cs,⟨b,ar,t,_,_,H⟩=>by rw [aQ.kill,CS h cs _ H]
 | .arr _ _ _ _,_=>rfl
theorem Cell.yR {S S' H:Nat→Bool} (h1:∀ o,S o=true→S' o=true) (h2:∀ o,S' o=true→S o=true∨H o=true):∀ (c:Cell),(c.kill S).touch H=false→c.kill S'=c.kill S
 | .int _ _,_| .bool _,_| .str _,_| .nil,_| .sl _ _ _ _,_| .junk,_=>rfl
 | .ref o,ht=>by
   simp only [Cell.kill] at ht ⊢
   cases hs:S o with
   |true=>rw [h1 o hs]
   |false=>
    rw [hs] at ht
    have ht:H o=false:=ht
    cases hs':S' o with
    |false=>rfl
    |true=>rcases h2 o hs' with g|g<;>simp_all
theorem zN {S S' H:Nat→Bool} (h1:∀ o,S o=true→S' o=true) (h2:∀ o,S' o=true→S o=true∨H o=true):∀ (cs:List Cell),(cs.map (Cell.kill S)).any (Cell.touch H)=false→cs.map (Cell.kill S')=cs.map (Cell.kill S)
 |[],_=>rfl
 |c::cs,ht=>by
  rw [List.map_cons,List.any_cons,Bool.or_eq_false_iff] at ht
  rw [List.map_cons,List.map_cons,Cell.yR h1 h2 c ht.1,zN h1 h2 cs ht.2]
theorem SV.yR {S S' H:Nat→Bool} (h1:∀ o,S o=true→S' o=true) (h2:∀ o,S' o=true→S o=true∨H o=true):∀ (c:SV),(c.kill S).touch H=false→c.kill S'=c.kill S
 | .one c,ht=>by simp only [SV.kill];rw [Cell.yR h1 h2 c ht]
 | .agg cs,ht=>by simp only [SV.kill];rw [zN h1 h2 cs ht]
theorem S9 {S S' H:Nat→Bool} (h1:∀ o,S o=true→S' o=true) (h2:∀ o,S' o=true→S o=true∨H o=true):∀ (cs:List SV),(cs.map (SV.kill S)).any (SV.touch H)=false→cs.map (SV.kill S')=cs.map (SV.kill S)
 |[],_=>rfl
 |c::cs,ht=>by
  rw [List.map_cons,List.any_cons,Bool.or_eq_false_iff] at ht
  rw [List.map_cons,List.map_cons,SV.yR h1 h2 c ht.1,S9 h1 h2 cs ht.2]
theorem PX {S S' H:Nat→Bool} (h1:∀ o,S o=true→S' o=true) (h2:∀ o,S' o=true→S o=true∨H o=true):∀ (l:List (List Cell)),((l.map (List.map (Cell.kill S))).any fun cs=>cs.any (Cell.touch H))=false→l.map (List.map (Cell.kill S'))=l.map (List.map (Cell.kill S))
 |[],_=>rfl
 |c::cs,ht=>by
  rw [List.map_cons,List.any_cons,Bool.or_eq_false_iff] at ht
  rw [List.map_cons,List.map_cons,zN h1 h2 c ht.1,PX h1 h2 cs ht.2]
theorem AV.yR {S S' H:Nat→Bool} (h1:∀ o,S o=true→S' o=true) (h2:∀ o,S' o=true→S o=true∨H o=true):∀ (c:AV),(c.kill S).touch H=false→c.kill S'=c.kill S
 | .undef,_=>rfl
 | .sv v,ht=>by simp only [AV.kill];rw [SV.yR h1 h2 v ht]
 | .pO vs,ht=>by simp only [AV.kill];rw [S9 h1 h2 vs ht]
 | .cZ o off,ht=>by
   simp only [AV.kill] at ht ⊢
   cases hs:S o with
   |true=>rw [h1 o hs]
   |false=>
    rw [hs] at ht
    have ht:H o=false:=ht
    cases hs':S' o with
    |false=>rfl
    |true=>rcases h2 o hs' with g|g<;>simp_all
 | .qR o i off,ht=>by
   simp only [AV.kill] at ht ⊢
   cases hs:S o with
   |true=>rw [h1 o hs]
   |false=>
    rw [hs] at ht
    have ht:H o=false:=ht
    cases hs':S' o with
    |false=>rfl
    |true=>rcases h2 o hs' with g|g<;>simp_all
 | .win o i off,ht=>by
   simp only [AV.kill] at ht ⊢
   cases hs:S o with
   |true=>rw [h1 o hs]
   |false=>
    rw [hs] at ht
    have ht:H o=false:=ht
    cases hs':S' o with
    |false=>rfl
    |true=>rcases h2 o hs' with g|g<;>simp_all
 | .uG _ _ _ _,_=>rfl
 | .dK cs off,ht=>by simp only [AV.kill];rw [zN h1 h2 cs ht]
 | .fn g caps,ht=>by simp only [AV.kill];rw [PX h1 h2 caps ht]
theorem aQ.yR {S S' H:Nat→Bool} (h1:∀ o,S o=true→S' o=true) (h2:∀ o,S' o=true→S o=true∨H o=true):∀ (c:aQ),(c.kill S).touch H=false→c.kill S'=c.kill S
 | .var cs,ht=>by simp only [aQ.kill];rw [zN h1 h2 cs ht]
 | .arr _ _ _ _,_=>rfl
theorem ar1 {v s:St} {lv lp hd:List Nat} (h:v.more s) (h1:∀ o,bf lv o=true→bf lp o=true) (h2:∀ o,bf lp o=true→bf lv o=true∨bf hd o=true):
 ((yO lv v).ah0 hd).more (yO lp s):=by
 have hc:∀ (s:St),s.ah0 hd={n:=s.n,tmps:=(fun t=>match (s.tmps t).touch (bf hd) with|true=> .undef|false=>s.tmps t),ak:=(fun o=>match bf hd o with|true=>none|false=>match s.ak o with|some x=>(match x.touch (bf hd) with|true=>none|false=>some x)|none=>none)}:=by
  intro s
  cases hd with
  |cons=>rfl
  |nil=>
   have t0:∀ c:Cell,c.touch (bf [])=false:=fun c=>by cases c<;>rfl
   have t1:∀ cs:List Cell,cs.any (Cell.touch (bf []))=false:=fun cs=>by rw [List.any_eq_false];exact fun c _=>by rw [t0 c];simp
   have t2:∀ c:SV,c.touch (bf [])=false:=fun c=>by cases c with|one c=>exact t0 c|agg cs=>exact t1 cs
   have t3:∀ c:AV,c.touch (bf [])=false:=fun c=>by
    cases c with
    |sv v=>exact t2 v
    |pO vs=>show vs.any (SV.touch (bf []))=false;rw [List.any_eq_false];exact fun c _=>by rw [t2 c];simp
    |dK cs off=>exact t1 cs
    |fn g caps=>show (caps.any fun cs=>cs.any (Cell.touch (bf [])))=false;rw [List.any_eq_false];exact fun c _=>by rw [t1 c];simp
    |_=>rfl
   have t4:∀ c:aQ,c.touch (bf [])=false:=fun c=>by cases c with|var cs=>exact t1 cs|arr _ _ _ _=>rfl
   cases s with
   |mk n t o=>
    simp only [St.ah0,St.mk.injEq,true_and]
    refine ⟨funext fun q=>?_,funext fun q=>?_⟩
    · rw [t3 (t q)]
    · show o q=(match o q with|some x=>(match x.touch (bf []) with|true=>none|false=>some x)|none=>none)
      cases o q with
      |none=>rfl
      |some y=>dsimp only;rw [t4 y]
 rw [hc,o9,o9]
 refine ⟨fun t=>?_,fun o y hy=>?_⟩
 · dsimp only [St.kill]
   cases ht:((v.tmps t).kill (bf lv)).touch (bf hd) with
   |true=>exact .inl rfl
   |false=>
    dsimp only
    rcases h.tmps t with e|e
    · rw [e];exact .inl rfl
    · rw [e];exact .inr (AV.yR h1 h2 _ ht)
 · dsimp only [St.kill] at hy ⊢
   split at hy
   · cases hy
   · next hh=>
     split at hy
     · next x hx=>
       split at hx
       · cases hx
       · next hl=>
         cases hvo:v.ak o with
         |none=>rw [hvo] at hx;cases hx
         |some y0=>
          rw [hvo] at hx
          cases hx
          split at hy
          · cases hy
          · next ht=>
            cases hy
            have hlp:bf lp o=false:=by
             cases hlp:bf lp o with
             |false=>rfl
             |true=>rcases h2 o hlp with g|g<;>simp_all
            rw [hlp,h.ak o _ hvo]
            simp only [Option.map_some,aQ.yR h1 h2 _ ht]
     · cases hy
theorem ar2 {base:St} {D U:List Nat} {path:List fA} {L L':Nat→Bool} {i:Nat} {x:fA} (hi:i<path.length) (hL:L i=false) (hL':L' i=true) (h:∀ j,j≠i→L' j=L j)
 (hf:Fits D U (pick (path.set i x) 0 L')) (hne:∀ y∈pick path 0 L,y.d≠x.d) (hu:x.u≠[]→∀ j y,i<j→L j=true→path[j]? =some y→y.u=[]):
 (((nP base (pick path 0 L)).adds x.u).adds x.δ).set x.d x.v=nP base (pick (path.set i x) 0 L')∧(∀ o,bf (qp (pick (path.set i x) 0 L')) o=(bf (qp (pick path 0 L)) o||bf x.k o)):=by
 have hsplit:path=path.take i++path[i]::path.drop (i+1):=by rw [List.getElem_cons_drop,List.take_append_drop]
 have hset:path.set i x=path.take i++x::path.drop (i+1):=by
  rw [List.set_eq_take_append_cons_drop,if_pos hi]
 have hlen:(path.take i).length=i:=by rw [List.length_take];omega
 have p1:pick path 0 L=pick (path.take i) 0 L++pick (path.drop (i+1)) (i+1) L:=by
  conv=>lhs;rw [hsplit]
  rw [QD,hlen,Nat.zero_add,pick,hL]
 have auV:∀ (l:List fA) (j:Nat),(∀ k,k<l.length→j+k≠i)→pick l j L'=pick l j L:=by
  intro l
  induction l with
  |nil=>intros;rfl
  |cons y l ih=>
   intro j hj
   rw [pick,pick,h j (by simpa using hj 0 (by simp)),ih (j+1) fun k hk=>by have:=hj (k+1) (by simpa using hk);omega]
 have p2:pick (path.set i x) 0 L'=pick (path.take i) 0 L++x::pick (path.drop (i+1)) (i+1) L:=by
  rw [hset,QD,hlen,Nat.zero_add,pick,hL',auV (path.take i) 0 fun k hk=>by omega,auV (path.drop (i+1)) (i+1) fun k hk=>by omega]
 rw [p2] at hf
 rw [p1] at hne
 rw [p1,p2]
 refine ⟨?_,fun o=>?_⟩
 case refine_2=>
  rw [Bool.eq_iff_iff,Bool.or_eq_true,qF,qF,yP]
  constructor
  · rintro ⟨y,hy,ho⟩
    rcases List.mem_append.1 hy with h|h
    · exact .inl ⟨y,List.mem_append_left _ h,ho⟩
    · rcases List.mem_cons.1 h with rfl|h
      · exact .inr ho
      · exact .inl ⟨y,List.mem_append_right _ h,ho⟩
  · rintro (⟨y,hy,ho⟩|ho)
    · rcases List.mem_append.1 hy with h|h
      · exact ⟨y,List.mem_append_left _ h,ho⟩
      · exact ⟨y,List.mem_append_right _ (List.mem_cons_of_mem _ h),ho⟩
    · exact ⟨x,by simp,ho⟩
 refine aqm hf hne fun hxu y hy=>?_
 obtain ⟨k,hk1,hk2⟩:=(mP _ _).1 hy
 rw [List.getElem?_drop] at hk2
 exact hu hxu (i+1+k) y (by omega) hk1 hk2
theorem ar4 {base:St} {D U:List Nat} {path:List fA} {L L':Nat→Bool} {i:Nat} {x:fA} (hi:i<path.length) (hL:L i=false) (hL':L' i=true) (h:∀ j,j≠i→L' j=L j)
 (hf:Fits D U (pick (path.set i x) 0 L')) (hne:∀ y∈pick path 0 L,y.d≠x.d) (hu:x.u≠[]→∀ j y,i<j→L j=true→path[j]? =some y→y.u=[])
 (hv:x.v.kill (bf (qp (pick (path.set i x) 0 L')))=x.v)
 (hxo:∀ o y,(look x.δ o=some y∨look x.u o=some y)→bf (qp (pick (path.set i x) 0 L')) o=false∧y.kill (bf (qp (pick (path.set i x) 0 L')))=y):
 (((yO x.k (after base path L)).adds x.u).adds x.δ).set x.d x.v=after base (path.set i x) L':=by
 obtain ⟨e1,e2⟩:=ar2 (base:=base) hi hL hL' h hf hne hu
 have e3:yO x.k (after base path L)=(nP base (pick path 0 L)).kill (bf (qp (pick (path.set i x) 0 L'))):=by
  unfold after
  rw [o9,o9]
  exact St.wM e2 _
 rw [e3]
 unfold after
 rw [o9,← e1]
 generalize bf (qp (pick (path.set i x) 0 L'))=S at hv hxo
 generalize nP base (pick path 0 L)=s
 have f1:∀ s:St,((s.adds x.u).adds x.δ)={s with ak:=((s.adds x.u).adds x.δ).ak}:=fun s=>by rw [SA,SA s x.u]
 rw [f1 (s.kill S),f1 s]
 simp only [St.set,St.kill,St.mk.injEq,true_and]
 refine ⟨funext fun t=>?_,funext fun o=>?_⟩
 · cases Nat.beq t x.d with
   |true=>exact hv.symm
   |false=>rfl
 · rw [pX,pX,pX,pX]
   cases hδ:look x.δ o with
   |some y=>
    obtain ⟨g1,g2⟩:=hxo o y (.inl hδ)
    simp only [g1,Option.map_some,g2]
   |none=>
    cases hu:look x.u o with
    |some y=>
     obtain ⟨g1,g2⟩:=hxo o y (.inr hu)
     simp only [g1,Option.map_some,g2]
    |none=>rfl
theorem ar5 {base:St} {path:List fA} {L:Nat→Bool} (hL:∀ i,L i=false):after base path L=base:=by
 unfold after
 rw [amX path 0 L fun i _=>hL i]
 rfl
theorem aui (h:Rel w0 M T γ st a w) (D:List Nat):Rel w0 M T γ (dw D st) a w:=h.kill _
theorem am0 {D:List Nat} {o:Nat} (h:bf D (o / 64)=true):(dw D st).ak o=none:=by simp [dw,St.kill,h]
theorem ar6 {R:Reg} {path:List fA} {L:Nat→Bool} {i:Nat} (hf:Fits R.D R.U (pick path 0 L)) (hsub:∀ j,(R.ms.getD i 0).testBit j=true→L j=true)
 (hidx:∀ k x,path[k]? =some x→idxOf R.D x.d 0=some k) (hi:L i=false) (hdown:∀ k,L k=true→(R.ms.getD k 0).testBit i=false)
 (heff:Gj R.ms R.E i=true→∀ j x,path[j]? =some x→x.u≠[]→L j=true→(R.ms.getD i 0).testBit j=true):
 ((match Gj R.ms R.E i with
   |true=>nP (dw R.D st) (pick path 0 (R.ms.getD i 0).testBit)
   |false=>(nP (dw R.D st) (pick path 0 (R.ms.getD i 0).testBit)).hide R.U).veil R i).more (nP (dw R.D st) (pick path 0 L)):=by
 have hmem:∀ x∈pick path 0 (R.ms.getD i 0).testBit,x∈pick path 0 L:=fun x hx=>by
  obtain ⟨j,h1,h2⟩:=(mP _ _).1 hx
  rw [Nat.zero_add] at h1
  exact (mP _ _).2 ⟨j,by rw [Nat.zero_add];exact hsub j h1,h2⟩
 have ht:∀ t,afp R i t=false→BN (pick path 0 L) t ((dw R.D st).tmps t)=BN (pick path 0 (R.ms.getD i 0).testBit) t ((dw R.D st).tmps t):=by
  intro t hh
  by_cases he:∃ x∈pick path 0 (R.ms.getD i 0).testBit,x.d=t
  · obtain ⟨x,hx,rfl⟩:=he
    rw [PW _ hx fun y hy e=>hf.one x (hmem x hx) y (hmem y hy) e,PW _ (hmem x hx) fun y hy e=>hf.one x (hmem x hx) y hy e]
  · rw [UY (pick path 0 (R.ms.getD i 0).testBit) fun x hx e=>he ⟨x,hx,e⟩]
    refine UY _ fun x hx e=>?_
    obtain ⟨k,h1,h2⟩:=(mP _ _).1 hx
    rw [Nat.zero_add] at h1
    have hk:=hidx k x h2
    rw [e] at hk
    unfold afp at hh
    rw [hk] at hh
    simp only [Bool.not_eq_false',Bool.or_eq_true] at hh
    rcases hh with g|g|g
    · have:=Nat.eq_of_beq_eq_true g
      subst this
      rw [hi] at h1;cases h1
    · exact he ⟨x,(mP _ _).2 ⟨k,by rw [Nat.zero_add];exact g,h2⟩,e⟩
    · rw [hdown k h1] at g;cases g
 have hO:∀ o y,lookO (pick path 0 (R.ms.getD i 0).testBit) o ((dw R.D st).ak o)=some y→lookO (pick path 0 L) o ((dw R.D st).ak o)=some y:=by
  intro o y hy
  by_cases he:∃ x∈pick path 0 (R.ms.getD i 0).testBit,∃ z,look x.δ o=some z
  · obtain ⟨x,hx,z,hz⟩:=he
    have auW:∀ w∈pick path 0 L,∀ z',look w.δ o=some z'→x=w:=fun w hw z' hz'=>
     hf.one x (hmem x hx) w hw ((yQ (hf.new x (hmem x hx)) hz).symm.trans (yQ (hf.new w hw) hz'))
    rw [ZQ _ hx hz fun w hw z' hz'=>auW w (hmem w hw) z' hz'] at hy
    rw [ZQ _ (hmem x hx) hz auW]
    exact hy
  · have hno:∀ x∈pick path 0 (R.ms.getD i 0).testBit,look x.δ o=none:=fun x hx=>by
     cases hl:look x.δ o with
     |none=>rfl
     |some z=>exact (he ⟨x,hx,z,hl⟩).elim
    rw [MP _ hno] at hy
    rw [MP,hy]
    intro x hx
    cases hl:look x.δ o with
    |none=>rfl
    |some z=>
     rw [am0 (by rw [yQ (hf.new x hx) hl];exact hf.mem x hx)] at hy
     cases hy
 have hsame:∀ o y,qE (pick path 0 (R.ms.getD i 0).testBit) o=qE (pick path 0 L) o→(nP (dw R.D st) (pick path 0 (R.ms.getD i 0).testBit)).ak o=some y→(nP (dw R.D st) (pick path 0 L)).ak o=some y:=by
  intro o y he hy
  unfold nP at hy ⊢
  dsimp only at hy ⊢
  rw [he] at hy
  split at hy
  · next z hz=>exact hy
  · next hz=>exact hO o y hy
 have auX:∀ s:St,(∀ t,s.tmps t=BN (pick path 0 (R.ms.getD i 0).testBit) t ((dw R.D st).tmps t))→(∀ o y,s.ak o=some y→(nP (dw R.D st) (pick path 0 L)).ak o=some y)→(s.veil R i).more (nP (dw R.D st) (pick path 0 L)):=by
  intro s h1 h2
  refine ⟨fun t=>?_,h2⟩
  show (match afp R i t with|true=>AV.undef|false=>s.tmps t)= .undef∨_=(match afp R i t with|true=>AV.undef|false=>s.tmps t)
  cases hh:afp R i t with
  |true=>exact .inl rfl
  |false=>right;dsimp only;rw [h1 t];exact ht t hh
 split
 · next hc=>
   refine auX _ (fun t=>rfl) fun o y hy=>hsame o y ?_ hy
   refine aeg path 0 fun j x hj hu=>?_
   rw [Nat.zero_add]
   cases hL:L j with
   |true=>exact heff hc j x hj hu hL
   |false=>
    cases hm:(R.ms.getD i 0).testBit j with
    |false=>rfl
    |true=>rw [hsub j hm] at hL;cases hL
 · next hc=>
   refine auX _ (fun t=>rfl) fun o y hy=>?_
   unfold St.hide at hy
   dsimp only at hy
   split at hy
   · cases hy
   · next hU=>
     refine hsame o y ?_ hy
     have nou:∀ x∈pick path 0 L,look x.u o=none:=fun x hx=>by
      cases hl:look x.u o with
      |none=>rfl
      |some z=>have:=(hf.upd x hx o z hl).1;rw [hU] at this;cases this
     rw [Fj _ nou,Fj _ fun x hx=>nou x (hmem x hx)]
theorem atf (st:St) (U:List Nat) (S:Nat→Bool):(st.kill S).hide U=(st.hide U).kill S:=by
 simp only [St.hide,St.kill,St.mk.injEq,true_and]
 funext o
 cases bf U o<;>cases S o<;>rfl
theorem am1 (st:St) (R:Reg) (i:Nat) (S:Nat→Bool):(st.kill S).veil R i=(st.veil R i).kill S:=by
 simp only [St.veil,St.kill,St.mk.injEq,true_and,and_true]
 funext t
 cases afp R i t<;>rfl
theorem apl {ms:List Nat} {i e q:Nat} (Tc:e≠i) (h1:(ms.getD i 0).testBit e=false) (h2:(ms.getD e 0).testBit i=false):∀ (A:List (Nat×Nat)),JC A e q=true→bf (alc ms i A) q=true
 |[],h=>by cases h
 |(e',q')::r,h=>by
  rw [JC] at h
  rw [alc]
  cases hb:Nat.beq e' e&&Nat.beq q' q with
  |true=>
   rw [Bool.and_eq_true] at hb
   rw [Nat.eq_of_beq_eq_true hb.1,Nat.eq_of_beq_eq_true hb.2,h1,h2,D6 Tc]
   simp [bf,Nat.beq_refl]
  |false=>
   rw [hb] at h
   have ih:=apl Tc h1 h2 r h
   split
   · exact ih
   · rw [bf,ih];split<;>rfl
theorem aqn {R:Reg} {path:List fA} {L:Nat→Bool} {i:Nat} (hf:Fits R.D R.U (pick path 0 L)) (hsub:∀ j,(R.ms.getD i 0).testBit j=true→L j=true)
 (hidx:∀ k x,path[k]? =some x→idxOf R.D x.d 0=some k) (hi:L i=false) (hdown:∀ k,L k=true→(R.ms.getD k 0).testBit i=false)
 (heff:Gj R.ms R.E i=true→∀ j x,path[j]? =some x→x.u≠[]→L j=true→(R.ms.getD i 0).testBit j=true)
 (hk:∀ e x,path[e]? =some x→L e=true→∀ q∈x.k,JC R.A e q=true):
 (viewAt R (dw R.D st) path i).more (after (dw R.D st) path L):=by
 have h0:=ar6 (st:=st) hf hsub hidx hi hdown heff
 have e:viewAt R (dw R.D st) path i=(yO (qp (pick path 0 (R.ms.getD i 0).testBit)) ((match Gj R.ms R.E i with
  |true=>nP (dw R.D st) (pick path 0 (R.ms.getD i 0).testBit)
  |false=>(nP (dw R.D st) (pick path 0 (R.ms.getD i 0).testBit)).hide R.U).veil R i)).ah0 (alc R.ms i R.A):=by
  unfold viewAt after
  rw [o9,o9]
  cases Gj R.ms R.E i
  · dsimp only;rw [atf,am1]
  · dsimp only;rw [am1]
 rw [e]
 refine ar1 h0 (fun o ho=>?_) fun o ho=>?_
 · obtain ⟨x,hx,hxo⟩:=(qF _).1 ho
   obtain ⟨j,h1,h2⟩:=(mP _ _).1 hx
   rw [Nat.zero_add] at h1
   exact (qF _).2 ⟨x,(mP _ _).2 ⟨j,by rw [Nat.zero_add];exact hsub j h1,h2⟩,hxo⟩
 · obtain ⟨x,hx,hxo⟩:=(qF _).1 ho
   obtain ⟨j,h1,h2⟩:=(mP _ _).1 hx
   rw [Nat.zero_add] at h1
   cases hb:(R.ms.getD i 0).testBit j with
   |true=>exact .inl ((qF _).2 ⟨x,(mP _ _).2 ⟨j,by rw [Nat.zero_add];exact hb,h2⟩,hxo⟩)
   |false=>exact .inr (apl (fun e=>by subst e;rw [hi] at h1;cases h1) hb (hdown j h1) R.A (hk j x h2 h1 o hxo))
theorem am2:∀ (l:List Nat) (j i d:Nat),nodup l=true→l[i]? =some d→idxOf l d j=some (j+i)
 |[],_,_,_,_,h=>by simp at h
 |x::r,j,0,d,_,h=>by
  simp at h;subst h
  rw [idxOf,Nat.beq_refl];rfl
 |x::r,j,i+1,d,hn,h=>by
  rw [nodup,Bool.and_eq_true] at hn
  have hne:Nat.beq d x=false:=by
   cases hb:Nat.beq d x with
   |false=>rfl
   |true=>
    have hx:=Nat.eq_of_beq_eq_true hb
    subst hx
    have:bf r d=true:=yP.2 (List.mem_of_getElem? (by simpa using h))
    rw [this] at hn;simp at hn
  rw [idxOf,hne,show j+(i+1)=j+1+i by omega]
  exact am2 r (j+1) i d hn.2 (by simpa using h)
end Go.Fw
namespace Go.Fw
open Go
variable {P:Program} {w0:World} {M:Nat→Prop} {T:Ext} {γ γ':Nat→Value} {st s:St} {a:Act} {w w':World} {Θ:gK} {Γ:aB}
theorem Cell.CU {S:Nat→Bool} (h:∀ o,S o=false):∀ (c:Cell),c.kill S=c
 | .ref o=>by simp only [Cell.kill,h o]
 | .int _ _| .bool _| .str _| .nil| .sl _ _ _ _| .junk=>rfl
theorem Gx {S:Nat→Bool} (h:∀ o,S o=false) (cs:List Cell):cs.map (Cell.kill S)=cs:=by
 rw [show Cell.kill S=id from funext (Cell.CU h),List.map_id]
theorem SV.CU {S:Nat→Bool} (h:∀ o,S o=false):∀ (c:SV),c.kill S=c
 | .one c=>by simp only [SV.kill,Cell.CU h]
 | .agg cs=>by simp only [SV.kill,Gx h]
theorem AV.CU {S:Nat→Bool} (h:∀ o,S o=false):∀ (c:AV),c.kill S=c
 | .undef=>rfl
 | .sv v=>by simp only [AV.kill,SV.CU h]
 | .pO vs=>by simp only [AV.kill];rw [show SV.kill S=id from funext (SV.CU h),List.map_id]
 | .cZ o off=>by simp only [AV.kill,h o]
 | .qR o i off=>by simp only [AV.kill,h o]
 | .win o i off=>by simp only [AV.kill,h o]
 | .uG _ _ _ _=>rfl
 | .dK cs off=>by simp only [AV.kill,Gx h]
 | .fn f caps=>by simp only [AV.kill];rw [show List.map (Cell.kill S)=id from funext (Gx h),List.map_id]
theorem aQ.CU {S:Nat→Bool} (h:∀ o,S o=false):∀ (c:aQ),c.kill S=c
 | .var cs=>by simp only [aQ.kill,Gx h]
 | .arr _ _ _ _=>rfl
theorem St.CU {S:Nat→Bool} (h:∀ o,S o=false) (st:St):st.kill S=st:=by
 unfold St.kill
 rw [show (fun t=>(st.tmps t).kill S)=st.tmps from funext fun t=>AV.CU h _]
 have:(fun o=>match S o with|true=>none|false=>(st.ak o).map (aQ.kill S))=st.ak:=by
  funext o
  rw [h o,show aQ.kill S=id from funext (aQ.CU h)]
  cases st.ak o<;>rfl
 exact congrArg (fun f=>({n:=st.n,tmps:=st.tmps,ak:=f}:St)) this
theorem ar7:∀ (c:Cell),c.refs=[]→c.view s=c.view st
 | .int _ _,_| .bool _,_| .str _,_| .nil,_| .sl _ _ _ _,_| .junk,_=>rfl
theorem aej:∀ (cs:List Cell),cs.flatMap Cell.refs=[]→cs.map (Cell.view s)=cs.map (Cell.view st)
 |[],_=>rfl
 |c::cs,h=>by
  rw [List.flatMap_cons,List.append_eq_nil_iff] at h
  rw [List.map_cons,List.map_cons,ar7 c h.1,aej cs h.2]
theorem ZT (h:st.more s) {m:Mode} {x:AV} {r:Arg×Option Nat} (hr:uf st m x=some r):uf s m x=some r:=by
 unfold uf at hr ⊢
 cases m with
 |val=>
  dsimp only at hr ⊢
  split at hr
  · next a hx ha=>rw [hx,En h _ _ ha];exact hr
  · cases hr
 |own=>
  dsimp only at hr ⊢
  split at hr
  · split at hr
    · next ho=>rw [h.ak _ _ ho];exact hr
    · cases hr
  · cases hr
 |ptr=>
  dsimp only at hr ⊢
  split at hr
  · split at hr
    · next hb ho=>
      split at hr
      · next hn=>rw [hb,h.ak _ _ ho];dsimp only;rw [hn,aej (s:=s) (st:=st) _ hn];exact hr
      · cases hr
    · cases hr
  · cases hr
theorem WW {m:Mode} {x:AV} {r:Arg×Option Nat} (hr:uf st m x=some r):x≠ .undef:=by
 rintro rfl
 cases m<;>simp [uf,tH] at hr
theorem IA (h:st.more s):∀ (os:List (Option Nat)) (aW:List Eff) (δ:List (Nat×aQ)),qC st os aW=some δ→qC s os aW=some δ
 |[],_,_,hb=>by unfold qC at hb ⊢;exact hb
 |none::os,aW,δ,hb=>by rw [qC] at hb ⊢;exact IA h os _ δ hb
 |some o::os,aW,δ,hb=>by
  unfold qC at hb ⊢
  split at hb
  · next h1 h2=>rw [h1,IA h _ _ _ h2];dsimp only;exact hb
  · next h1 h2 h3=>rw [h1,h.ak _ _ h2,IA h _ _ _ h3];dsimp only;exact hb
  · next h1 h2 h3=>rw [h1,h.ak _ _ h2,IA h _ _ _ h3];dsimp only;exact hb
  · cases hb
theorem QE:∀ (os:List (Option Nat)) (aW:List Eff),SY os aW=true→∀ p,ji os aW p=false
 |[],_,_,_=>rfl
 |none::os,aW,h,p=>by rw [SY] at h;rw [ji];exact QE os _ h p
 |some o::os,aW,h,p=>by
  unfold SY at h
  unfold ji
  split at h
  · next cs he=>rw [he];exact QE os _ h p
  · cases h
theorem anQ (h:st.more s) {m:Mode} {x:AV} {r:Arg×Option Nat} (hr:yc st m x=some r):yc s m x=some r:=by
 cases m with
 |val=>
  simp only [yc] at hr ⊢
  split at hr
  · next a ha=>rw [En h _ _ ha];exact hr
  · cases hr
 |own=>exact ZT h (m:= .own) hr
 |ptr=>exact ZT h (m:= .ptr) hr
theorem ald {m:Mode} {x:AV} {r:Arg×Option Nat} (hr:yc st m x=some r):x≠ .undef:=by
 cases m with
 |val=>rintro rfl;simp [yc,tH] at hr
 |own=>exact WW (m:= .own) hr
 |ptr=>exact WW (m:= .ptr) hr
theorem aek (h:st.more s):∀ (ms:List Mode) (xs:List AV) (r:List Arg×List (Option Nat)),AA st ms xs=some r→AA s ms xs=some r
 |_,[],r,hr=>by unfold AA at hr ⊢;exact hr
 |ms,x::xs,r,hr=>by
  unfold AA at hr ⊢
  split at hr
  · next h1 h2=>rw [anQ h h1,aek h _ _ _ h2];exact hr
  · cases hr
theorem ZU:∀ (ms:List Mode) (xs:List AV) (r:List Arg×List (Option Nat)),AA st ms xs=some r→∀ x∈xs,x≠ .undef
 |_,[],_,_,x,hx=>by cases hx
 |ms,x::xs,r,hr,y,hy=>by
  unfold AA at hr
  split at hr
  · next h1 h2=>
    rcases List.mem_cons.1 hy with rfl|hy
    · exact ald h1
    · exact ZU _ _ _ h2 y hy
  · cases hr
theorem ar8 {xs:List AV} (h:Ih xs=true):Ad xs=[]:=by
 unfold Ih at h
 split at h
 · next h0=>exact h0
 · cases h
theorem D8:∀ (ms:List Mode) (xs:List AV) (r:List Arg×List (Option Nat)),Ad (F9 ms xs)=[]→AA st ms xs=some r→hands st ms xs=some r
 |_,[],r,_,hr=>by unfold AA at hr;unfold hands;exact hr
 |ms,x::xs,r,hn,hr=>by
  unfold AA at hr
  split at hr
  · next a o as os h1 h2=>
    have key:hands st ms.tail xs=some (as,os)∧uf st (ms.headD .val) x=some (a,o):=by
     cases ms with
     |nil=>
      have hn':x.refs++Ad xs=[]:=hn
      rw [List.append_eq_nil_iff] at hn'
      refine ⟨D8 [] xs _ (by cases xs<;>exact hn'.2) h2,?_⟩
      have h1:yc st .val x=some (a,o):=h1
      simp only [yc] at h1
      show uf st .val x=_
      simp only [uf,hn'.1]
      split at h1
      · next b hb=>rw [hb];exact h1
      · cases h1
     |cons m ms=>
      cases m with
      |val=>
       have hn':x.refs++Ad (F9 ms xs)=[]:=hn
       rw [List.append_eq_nil_iff] at hn'
       refine ⟨D8 ms xs _ hn'.2 h2,?_⟩
       have h1:yc st .val x=some (a,o):=h1
       simp only [yc] at h1
       show uf st .val x=_
       simp only [uf,hn'.1]
       split at h1
       · next b hb=>rw [hb];exact h1
       · cases h1
      |own=>exact ⟨D8 ms xs _ hn h2,h1⟩
      |ptr=>exact ⟨D8 ms xs _ hn h2,h1⟩
    unfold hands
    rw [key.1,key.2]
    exact hr
  · cases hr
theorem anR {m:Mode} {x:AV} {a:Arg} {o:Option Nat} (h:yc st m x=some (a,o)):Ho false st x a o:=by
 have weak:Ho true st x a o→Ho false st x a o:=fun h=>h.imp (fun ⟨h1,_,h3⟩=>⟨h1,(fun e=>by cases e),h3⟩) id
 cases m with
 |val=>
  simp only [yc] at h
  split at h
  · next b hb=>cases h;exact .inl ⟨rfl,(fun e=>by cases e),hb⟩
  · cases h
 |own=>exact weak (NS (m:= .own) h)
 |ptr=>exact weak (NS (m:= .ptr) h)
theorem ael:∀ (ms:List Mode) (xs:List AV) (as:List Arg) (os:List (Option Nat)),AA st ms xs=some (as,os)→wJ false st xs as os
 |_,[],as,os,h=>by unfold AA at h;cases h;trivial
 |ms,x::xs,as,os,h=>by
  unfold AA at h
  split at h
  · next a o as' os' h1 h2=>cases h;exact ⟨anR h1,ael ms.tail xs as' os' h2⟩
  · cases h
theorem apm {G:kQ} (hE:xG P G Θ Γ w0 M) (h:Rel w0 M T γ s a w) (hm:st.more s) (o:Oper) {D U:List Nat} {d:Nat} {p:Prop} {ρ:KY} {os:List (Option Nat)×Bool}
 (hc:SX Γ st o.op=some (p,ρ,os)) (hp:p) (hd:∀ q,q / 64=d→s.ak q=none) (hch:∀ t,ρ.R t→∃ r,Iz D U d st os (ρ.out t) (ρ.aW t)=some r) {next:Act→World→Prop} {Q:Exit→Act→World→Prop}
 (hn:∀ t v υ δ u γ' w',ρ.R t→Iz D U d st os (ρ.out t) (ρ.aW t)=some (v,υ,δ)→Rel w0 M T γ' ((s.adds υ).adds δ) a w'→bI (aA w0 T γ' ((s.adds υ).adds δ) w') v u→next (a.put o.dst u) w'):o.wp P a w next Q:=by
 unfold SX at hc
 split at hc
 case h_2=>cases hc
 next f args uq hop=>
 split at hc
 case h_2=>cases hc
 next ms con hcon=>
 split at hc
 case h_2=>cases hc
 next vs os' ZB=>
 split at hc
 case h_2=>cases hc
 next hno=>
 split at hc
 case h_2=>cases hc
 next q ρ' hq=>
 cases hc
 have hand:handed s args.toList []=handed st args.toList []:=QB hm [] _ (ZU _ _ _ ZB)
 have ale:=aek hm _ _ _ ZB
 rw [← hand] at ale hno hch hn
 obtain ⟨hok,hcall⟩:=hE.aok f ms con hcon
 have hv:bI (aA w0 T γ s w) (.fn f []) (a.eval (.func f)):=jw h (.func f)
 obtain ⟨us,hvx,hkx⟩:=hv
 unfold Oper.wp
 rw [PG hop hvx hcall,Oper.upon_enter]
 have hxs:rZ (aA w0 T γ s w) (handed s args.toList []) (args.map a.eval++us).toList:=by
  rw [Array.toList_append,Array.toList_map]
  exact Ip h hkx args.toList
 have hk:(d*64+1)%64=1:=by omega
 have hspec:∀ t,ρ.R t→∃ υ,Cm os'=true∧Kr (ρ.aW t) ((ρ.out t).take (d*64+1)).2=true∧qC s os' (ρ.aW t)=some υ∧s.kill (ji os' (ρ.aW t))=s∧kJ s ((ρ.out t).take (d*64+1)).2=true∧
  (!(!(Ih (F9 ms (handed s args.toList []))))||((ρ.out t).made&&NT (ρ.aW t)))=true∧
  Iz D U d st (os',!(Ih (F9 ms (handed s args.toList [])))) (ρ.out t) (ρ.aW t)=some (((ρ.out t).take (d*64+1)).1,υ,((ρ.out t).take (d*64+1)).2):=by
  intro t ht
  obtain ⟨r,hr⟩:=hch t ht
  have hr0:=hr
  unfold Iz at hr
  split at hr
  · next υ hnd hb=>
    rw [Bool.and_eq_true,Bool.and_eq_true,Bool.and_eq_true,Bool.and_eq_true] at hnd
    split at hr
    · cases hr
      refine ⟨υ,hnd.1,hnd.2.1,IA hm _ _ _ hb,St.CU (QE _ _ hnd.2.2.1) s,?_,hnd.2.2.2.2,hr0⟩
      refine List.all_eq_true.2 fun z hz=>?_
      rw [hd z.1 (Nat.eq_of_beq_eq_true (List.all_eq_true.1 hnd.2.2.2.1 z hz))]
      rfl
    · cases hr
  · cases hr
 have hpre:∀ t,ρ.R t→∃ δ,qC s os' (ρ.aW t)=some δ∧kJ (s.kill (ji os' (ρ.aW t))) ((ρ.out t).take (d*64+1)).2=true∧Kr (ρ.aW t) ((ρ.out t).take (d*64+1)).2=true:=fun t ht=>by
  obtain ⟨υ,_,g1,g2,g3,g4,_,_⟩:=hspec t ht
  exact ⟨υ,g2,by rw [g3];exact g4,g1⟩
 obtain ⟨t0,ht0⟩:=(hok vs _ ρ hq hp).1
 obtain ⟨_,hnd,_⟩:=hspec t0 ht0
 have avT:Calls P f (args.map a.eval++us) w fun e w'=>∃ t δ,ρ.R t∧qC s os' (ρ.aW t)=some δ∧∃ v γ',e= .returned v∧
  Rel w0 M T γ' (((s.kill (ji os' (ρ.aW t))).adds δ).adds ((ρ.out t).take (d*64+1)).2) a w'∧bI (aA w0 T γ' (((s.kill (ji os' (ρ.aW t))).adds δ).adds ((ρ.out t).take (d*64+1)).2) w') ((ρ.out t).take (d*64+1)).1 v:=by
  cases hnr:Ih (F9 ms (handed s args.toList [])) with
  |true=>exact h.aqL hE hxs (UL ms _ vs os' (D8 ms _ _ (ar8 hnr) ale)) hnd hk hok hq hp hpre
  |false=>
   rw [hnr] at hno
   refine h.aoV hE hxs (ael ms _ vs os' ale) hnd hk hok hq hp (fun q e r l he=>?_) (fun t ht=>?_) hpre
   · unfold dP at he
     split at he
     · next e' r' l' hb=>
       have:=List.all_eq_true.1 hno _ (List.mem_of_getElem? hb)
       cases this
     · split at he<;>cases he
     · cases he
   · obtain ⟨_,_,_,_,_,_,g,_⟩:=hspec t ht
     rw [hnr] at g
     simpa using g
 refine avT.mono ?_
 rintro e w' ⟨t,δ,ht,hb,u,γ',rfl,g1,g2⟩
 obtain ⟨υ,_,_,k2,k3,_,_,k5⟩:=hspec t ht
 have hδ:υ=δ:=Option.some.inj (k2.symm.trans hb)
 subst hδ
 rw [k3] at g1 g2
 exact hn t _ _ _ u γ' w' ht k5 g1 g2
theorem EX {ops:Array Oper} {listed:Array Bool} {i:Nat}:i∈Region.ready .any ops listed↔
 ∃ o,ops[i]? =some o∧listed.getD i true=false∧∀ e∈o.after,Region.binds .any e=true→listed.getD e.on false=true:=by
 rw [mem_ready]
 constructor
 · rintro ⟨h1,o,h2,h3⟩;exact ⟨o,h2,h1,h3⟩
 · rintro ⟨o,h2,h1,h3⟩;exact ⟨h1,o,h2,h3⟩
theorem Hr {listed:Array Bool} {i:Nat} (hi:i<listed.size):listed.getD i true=listed.getD i false:=by
 simp [Array.getD,hi]
theorem avm (d:Nat):(d*64+1) / 64=d:=by omega
theorem am3 {o:Op} (h:CP o=true):BO Γ o=true:=by
 unfold CP at h
 split at h
 · rfl
 · cases h
theorem Rel.avU (h:Rel w0 M T γ st a w) (d:Nat) (hd:st.n≤d) (v:AV) (hv:v= .pO []):Rel w0 M T γ (st.set d v) (a.put none undef) w:=by
 refine ⟨h.mT,h.defers,h.size,h.os,h.tape,h.output,h.grow,h.kept,fun t=>?_,h.ak,h.lt,h.sep,h.pin⟩
 show bI _ (match Nat.beq t d with|true=>v|false=>st.tmps t) (a.tmps.getD t undef)
 cases hb:Nat.beq t d with
 |false=>exact h.tmps t
 |true=>
  have e:=Nat.eq_of_beq_eq_true hb
  have hs:=h.size
  have:a.tmps.getD t undef=undef:=by simp [Array.getD,show ¬ t<a.tmps.size by omega]
  rw [this,hv]
  exact ⟨#[],rfl,trivial⟩
theorem alf {G:kQ} (hE:xG P G Θ Γ w0 M) {s:St} (h:Rel w0 M T γ s a w) (hm:st.more s) (o:Oper) {υ:List (Nat×aQ)} (hc:N9 Θ st o.op=some υ) {next:Act→World→Prop} {Q:Exit→Act→World→Prop}
 (hn:∀ γ' w',Rel w0 M T γ' ((s.adds υ).adds []) a w'→next (a.put o.dst undef) w'):o.wp P a w next Q:=by
 unfold N9 at hc
 split at hc
 case h_2=>cases hc
 next t p x hop=>
 split at hc
 case h_2=>cases hc
 next v ti q off hv ht hp=>
 split at hc
 case h_2=>cases hc
 next cs hlen ho=>
 split at hc
 case h_2=>cases hc
 next UK=>
 cases hc
 have hs:store s (.cZ q off) v=some (True,s.add q (.var (splice cs off v.cells))):=by
  unfold store
  simp only [hm.ak q _ ho,UK]
 have hpv:=jw h p
 rw [cu hm hp (by simp)] at hpv
 have hxv:=jw h x
 rw [cu hm hv (by simp)] at hxv
 obtain ⟨w',h1,h2⟩:=amJ hE.types h ht hs trivial hpv hxv (Nat.eq_of_beq_eq_true hlen)
 exact Oper.wp_skip (w':=w') (by simp [execOp,hop,h1]) (hn γ w' h2)
theorem Cell.oG {S:Nat→Bool} (st:St):∀ (c:Cell),c.kill S=c→c.freeze st S=c
 | .ref o,h=>by
   simp only [Cell.kill] at h
   simp only [Cell.freeze]
   cases hs:S o with
   |true=>rw [hs] at h;cases h
   |false=>rfl
 | .int _ _,_| .bool _,_| .str _,_| .nil,_| .sl _ _ _ _,_| .junk,_=>rfl
theorem tV {S:Nat→Bool} (st:St):∀ (cs:List Cell),cs.map (Cell.kill S)=cs→cs.map (Cell.freeze st S)=cs
 |[],_=>rfl
 |c::cs,h=>by
  rw [List.map_cons,List.cons.injEq] at h
  rw [List.map_cons,Cell.oG st c h.1,tV st cs h.2]
theorem SV.oG {S:Nat→Bool} (st:St):∀ (c:SV),c.kill S=c→c.freeze st S=c
 | .one c,h=>by
   simp only [SV.kill,SV.one.injEq] at h
   simp only [SV.freeze,Cell.oG st c h]
 | .agg cs,h=>by
   simp only [SV.kill,SV.agg.injEq] at h
   simp only [SV.freeze,tV st cs h]
theorem KA {S:Nat→Bool} (st:St):∀ (cs:List SV),cs.map (SV.kill S)=cs→cs.map (SV.freeze st S)=cs
 |[],_=>rfl
 |c::cs,h=>by
  rw [List.map_cons,List.cons.injEq] at h
  rw [List.map_cons,SV.oG st c h.1,KA st cs h.2]
theorem Jk {S:Nat→Bool} (st:St):∀ (l:List (List Cell)),l.map (List.map (Cell.kill S))=l→l.map (List.map (Cell.freeze st S))=l
 |[],_=>rfl
 |c::cs,h=>by
  rw [List.map_cons,List.cons.injEq] at h
  rw [List.map_cons,tV st c h.1,Jk st cs h.2]
theorem AV.oG {S:Nat→Bool} (st:St):∀ (c:AV),c.kill S=c→c.freeze st S=c
 | .undef,_=>rfl
 | .sv v,h=>by
   simp only [AV.kill,AV.sv.injEq] at h
   simp only [AV.freeze,SV.oG st v h]
 | .pO vs,h=>by
   simp only [AV.kill,AV.pO.injEq] at h
   simp only [AV.freeze,KA st vs h]
 | .cZ o off,h=>by
   simp only [AV.kill] at h
   simp only [AV.freeze]
   cases hs:S o with
   |true=>rw [hs] at h;cases h
   |false=>rfl
 | .qR o i off,h=>by
   simp only [AV.kill] at h
   simp only [AV.freeze]
   cases hs:S o with
   |true=>rw [hs] at h;cases h
   |false=>rfl
 | .win o i off,h=>by
   simp only [AV.kill] at h
   simp only [AV.freeze]
   cases hs:S o with
   |true=>rw [hs] at h;cases h
   |false=>rfl
 | .uG _ _ _ _,_=>rfl
 | .dK cs off,h=>by
   simp only [AV.kill,AV.dK.injEq] at h
   simp only [AV.freeze,tV st cs h.1]
 | .fn f caps,h=>by
   simp only [AV.kill,AV.fn.injEq] at h
   simp only [AV.freeze,Jk st caps h.2]
theorem aQ.oG {S:Nat→Bool} (st:St):∀ (c:aQ),c.kill S=c→c.freeze st S=c
 | .var cs,h=>by
   simp only [aQ.kill,aQ.var.injEq] at h
   simp only [aQ.freeze,tV st cs h]
 | .arr _ _ _ _,_=>rfl
theorem auj {s:St} {γ0:Nat→Value} {w1:World} {a1:Act} (h0:Rel w0 M T γ0 s a1 w1) {q:Nat} (hq:s.ak q=none) {e:TypeId} {r:aN} {l:List r.den} {fr:Bool} {u:Value}
 (h:Rel w0 M T γ (s.adds [(q, .arr e r l fr)]) a w) (hv:bI (aA w0 T γ (s.adds [(q, .arr e r l fr)]) w) (.sv (.one (.ref q))) u):
 Rel w0 M T γ s a w∧bI (aA w0 T γ s w) (.sv (.one (.sl e r l fr))) u:=by
 have hS:∀ o,Nat.beq q o=true→s.ak o=none:=fun o ho=>by rw [← Nat.eq_of_beq_eq_true ho];exact hq
 have qo:(s.adds [(q, .arr e r l fr)]).ak q=some (.arr e r l fr):=by
  show (match Nat.beq q q with|true=>some _|false=>_)=_
  rw [Nat.beq_refl]
 have hne:∀ o,Nat.beq q o=false→(s.adds [(q, .arr e r l fr)]).ak o=s.ak o:=fun o ho=>by
  show (match Nat.beq o q with|true=>some _|false=>_)=_
  cases hb:Nat.beq o q with
  |false=>rfl
  |true=>rw [Nat.eq_of_beq_eq_true hb,Nat.beq_refl] at ho;cases ho
 have hs:(s.adds [(q, .arr e r l fr)]).freeze (Nat.beq q)=s:=by
  have ht:((s.adds [(q, .arr e r l fr)]).freeze (Nat.beq q)).tmps=s.tmps:=by
   funext t
   exact AV.oG _ _ (AV.zM hS _ _ (h0.tmps t))
  have ho:((s.adds [(q, .arr e r l fr)]).freeze (Nat.beq q)).ak=s.ak:=by
   funext o
   simp only [St.freeze]
   cases hb:Nat.beq q o with
   |true=>simp only [hS o hb]
   |false=>
    simp only [hne o hb]
    cases hx:s.ak o with
    |none=>rfl
    |some x=>simp only [Option.map_some,aQ.oG _ x (aQ.zM hS x (h0.ak o x hx))]
  show (⟨s.n,((s.adds [(q, .arr e r l fr)]).freeze (Nat.beq q)).tmps,((s.adds [(q, .arr e r l fr)]).freeze (Nat.beq q)).ak⟩:St)=⟨s.n,s.tmps,s.ak⟩
  rw [ht,ho]
 have h1:=h.freeze (S:=Nat.beq q)
 have h2:=bI.freeze (S:=Nat.beq q) h _ _ hv
 rw [hs] at h1 h2
 refine ⟨h1,?_⟩
 simp only [AV.freeze,SV.freeze,Cell.freeze,Nat.beq_refl,qo] at h2
 exact h2
structure Way (R:Reg) (ops:Array Oper) (t0:Nat) (path:List fA):Prop where
 len:path.length=t0
 dst:∀ (i:Nat) (o:Oper) (x:fA),ops[i]? =some o→path[i]? =some x→yC R.n i o=some x.d
 auk:∀ x∈path,bf R.D x.d=true
 apart:∀ (i j:Nat) (x y:fA),path[i]? =some x→path[j]? =some y→x.d=y.d→i=j
 idx:∀ (i:Nat) (x:fA),path[i]? =some x→idxOf R.D x.d 0=some i
theorem xI.fit {R:Reg} {base:St} {path:List fA} {i:Nat} {o:Oper} {x:fA} (h:xI Θ Γ R base path i o x):
 Fh x.d x.δ=true∧(∀ q y,look x.u q=some y→bf R.U q=true∧bf R.D (q / 64)=false)∧(x.u≠[]→BO Γ o.op=true)∧∀ q∈x.k,JC R.A i q=true∧bf R.D (q / 64)=true:=by
 obtain ⟨_,_,h3⟩:=h
 rcases h3 with ⟨_,⟨_,_,p,v,δ,_,_,hn,hx⟩|⟨_,_,p,q,y,_,_,⟨h1,h2,h3⟩,hx⟩|⟨he,_,υ,_,hin,hx⟩|⟨⟨he,_⟩,hk,p,ρ,os,t,_,_,_,_,hres⟩⟩|⟨_,hx⟩
 · obtain ⟨l1,l2,l3,l4⟩:=uw R.F ⟨x.d,v,[],δ,[]⟩
   rw [← hx] at l2 l3 l4
   exact ⟨List.all_eq_true.2 fun y hy=>List.all_eq_true.1 hn y (l4 y hy),(fun q y hy=>by rw [l2] at hy;cases hy),(fun hne=>(hne l2).elim),fun q hq=>by rw [l3] at hq;cases hq⟩
 · obtain ⟨l1,l2,l3,l4⟩:=uw R.F ⟨x.d, .sv (.one (.ref (x.d*64+1))),[],[(x.d*64+1,y)],[q]⟩
   rw [← hx] at l2 l3 l4
   refine ⟨List.all_eq_true.2 fun z hz=>?_,(fun q y hy=>by rw [l2] at hy;cases hy),(fun hne=>(hne l2).elim),fun r hr=>?_⟩
   · have:=l4 z hz
     have:z=(x.d*64+1,y):=by simpa using this
     rw [this]
     show Nat.beq ((x.d*64+1) / 64) x.d=true
     rw [show (x.d*64+1) / 64=x.d by omega,Nat.beq_refl]
   · rw [l3] at hr
     have:r=q:=by simpa using hr
     rw [this];exact ⟨h3,h1⟩
 · rw [hx]
   refine ⟨rfl,fun q y hy=>?_,(fun _=>he),fun q hq=>by cases hq⟩
   have:=List.all_eq_true.1 hin _ (zJ _ _ _ hy)
   simpa using this
 · unfold Iz at hres
   split at hres
   · next υ hnd hb=>
     simp only [Bool.and_eq_true] at hnd
     split at hres
     · next hall=>
       simp only [Option.some.injEq,Prod.mk.injEq] at hres
       obtain ⟨_,e2,e3⟩:=hres
       refine ⟨by rw [← e3];exact hnd.2.2.2.1,fun q y hy=>?_,(fun _=>he),fun q hq=>by rw [hk] at hq;cases hq⟩
       rw [← e2] at hy
       have:=List.all_eq_true.1 hall _ (zJ _ _ _ hy)
       simpa using this
     · cases hres
   · cases hres
 · rw [hx];exact ⟨rfl,(fun q y hy=>by cases hy),(fun hne=>(hne rfl).elim),fun q hq=>by cases hq⟩
theorem ah2:∀ (l:List Oper) (i j:Nat) (o:Oper),l[j]? =some o→BO Γ o.op=true→i+j∈SS Γ i l
 |[],_,_,_,h,_=>by simp at h
 |x::r,i,0,o,h,he=>by
  simp at h;subst h
  rw [SS,he]
  simp
 |x::r,i,j+1,o,h,he=>by
  have:=ah2 r (i+1) j o (by simpa using h) he
  rw [show i+1+j=i+(j+1) by omega] at this
  rw [SS]
  cases BO Γ x.op
  · exact this
  · exact List.mem_cons_of_mem _ this
theorem Way.fits {R:Reg} {ops:Array Oper} {t0:Nat} {path:List fA} {L:Nat→Bool} {base:St} (W:Way R ops t0 path) (hle:t0≤ops.size)
 (hok:∀ j o x,ops[j]? =some o→path[j]? =some x→L j=true→xI Θ Γ R base path j o x):Fits R.D R.U (pick path 0 L):=by
 have get:∀ x∈pick path 0 L,∃ j o,L j=true∧path[j]? =some x∧ops[j]? =some o:=fun x hx=>by
  obtain ⟨j,h1,h2⟩:=(mP _ _).1 hx
  rw [Nat.zero_add] at h1
  obtain ⟨hj,_⟩:=List.getElem?_eq_some_iff.1 h2
  have hlen:=W.len
  exact ⟨j,ops[j]'(by omega),h1,h2,by simp⟩
 refine ⟨fun x hx y hy e=>?_,fun x hx=>?_,fun x hx=>?_,fun x hx q z hz=>?_⟩
 · obtain ⟨j,_,_,h2,_⟩:=get x hx
   obtain ⟨k,_,_,h3,_⟩:=get y hy
   have:=W.apart j k x y h2 h3 e
   subst this
   rw [h2] at h3
   exact Option.some.inj h3
 · obtain ⟨j,_,_,h2,_⟩:=get x hx
   exact W.auk x (List.mem_of_getElem? h2)
 · obtain ⟨j,o,h1,h2,h3⟩:=get x hx
   exact (hok j o x h3 h2 h1).fit.1
 · obtain ⟨j,o,h1,h2,h3⟩:=get x hx
   exact (hok j o x h3 h2 h1).fit.2.1 q z hz
theorem Way.set {R:Reg} {ops:Array Oper} {t0:Nat} {path:List fA} {i:Nat} {x y:fA} (W:Way R ops t0 path) (hy:path[i]? =some y) (hd:x.d=y.d):Way R ops t0 (path.set i x):=by
 obtain ⟨hi,_⟩:=List.getElem?_eq_some_iff.1 hy
 have get:∀ (j:Nat) (z:fA),(path.set i x)[j]? =some z→∃ z',path[j]? =some z'∧z.d=z'.d:=fun j z hz=>by
  by_cases e:j=i
  · subst e
    rw [List.getElem?_set_self hi] at hz
    cases hz
    exact ⟨y,hy,hd⟩
  · rw [List.getElem?_set_ne (Ne.symm e)] at hz
    exact ⟨z,hz,rfl⟩
 refine ⟨by simpa using W.len,fun j o z ho hz=>?_,fun z hz=>?_,fun j k u v hu hv e=>?_,fun j z hz=>?_⟩
 · obtain ⟨z',h1,h2⟩:=get j z hz
   rw [W.dst j o z' ho h1,h2]
 · obtain ⟨j,hj⟩:=List.getElem?_of_mem hz
   obtain ⟨z',h1,h2⟩:=get j z hj
   rw [h2];exact W.auk z' (List.mem_of_getElem? h1)
 · obtain ⟨u',h1,h2⟩:=get j u hu
   obtain ⟨v',h3,h4⟩:=get k v hv
   exact W.apart j k u' v' h1 h3 (by rw [← h2,← h4];exact e)
 · obtain ⟨z',h1,h2⟩:=get j z hz
   rw [h2];exact W.idx j z' h1
theorem aul {G:kQ} (hE:xG P G Θ Γ w0 M) {ops:Array Oper} {Q:Exit→Act→World→Prop} {R:Reg} {t0:Nat} {path:List fA} {L L':Nat→Bool} {i:Nat} {o:Oper}
 (W:Way R ops t0 path) (hle:t0≤ops.size) (hit:i<t0)
 (hRn:R.n=st.n) (hDn:∀ i o d,ops[i]? =some o→i<t0→o.dst=some d→d<st.n) (hgd:∀ i o g b,ops[i]? =some o→i<t0→o.guard=some (g,b)→∃ og d,ops[g]? =some og∧og.dst=some d) (hcmp:∀ e∈R.E,Gj R.ms R.E e=true) (hEi:∀ j o',ops[j]? =some o'→j<t0→BO Γ o'.op=true→j∈R.E)
 (hA:∀ e q,JC R.A e q=true→∃ j,idxOf R.D (q / 64) 0=some j∧(R.ms.getD e 0).testBit j=true)
 (ho:ops[i]? =some o) (hen:Enabled Θ Γ R (dw R.D st) path i o)
 (hok:∀ j o x,ops[j]? =some o→path[j]? =some x→L j=true→xI Θ Γ R (dw R.D st) path j o x)
 (hcl:∀ j k,L j=true→(R.ms.getD j 0).testBit k=true→L k=true)
 (hsub:∀ j,(R.ms.getD i 0).testBit j=true→L j=true) (hi:L i=false) (hi':L' i=true) (h:∀ j,j≠i→L' j=L j)
 (hR:Rel w0 M T γ (after (dw R.D st) path L) a w) {K:Act→World→Prop}
 (hK:∀ x γ' a' w',(∃ y,path[i]? =some y∧x.d=y.d)→xI Θ Γ R (dw R.D st) (path.set i x) i o x→Rel w0 M T γ' (after (dw R.D st) (path.set i x) L') a' w'→K a' w'):
 wpOp P ops Q i K a w:=by
 obtain ⟨d,hd,hm,hcase⟩:=hen
 have hlen:=W.len
 have hil:i<path.length:=by omega
 have hy:path[i]? =some path[i]:=by simp [hil]
 have hyd:path[i].d=d:=by
  have:=W.dst i o _ ho hy
  rw [hd] at this
  exact (Option.some.inj this).symm
 have hdD:bf R.D d=true:=by rw [← hyd];exact W.auk _ (List.mem_of_getElem? hy)
 have aoq:o.dst=some d∨(o.dst=none∧CP o.op=true∧st.n≤d):=by
  unfold yC at hd
  split at hd
  · next e he=>cases hd;exact .inl he
  · next he=>
    split at hd
    · next hs=>cases hd;exact .inr ⟨he,hs,by omega⟩
    · cases hd
 have hfit:=W.fits hle hok
 have hne:∀ y∈pick path 0 L,y.d≠d:=fun y hy' e=>by
  obtain ⟨j,h1,h2⟩:=(mP _ _).1 hy'
  rw [Nat.zero_add] at h1
  have:=W.apart j i y _ h2 hy (by rw [hyd];exact e)
  subst this
  rw [hi] at h1;cases h1
 have heff:∀ j x,path[j]? =some x→x.u≠[]→L j=true→j∈R.E:=fun j x hx hu hL=>by
  obtain ⟨hj,_⟩:=List.getElem?_eq_some_iff.1 hx
  have hoj:ops[j]? =some (ops[j]'(by omega)):=by simp
  exact hEi j _ hoj (by omega) ((hok j _ x hoj hx hL).fit.2.2.1 hu)
 have aqZ:Gj R.ms R.E i=true→∀ j,j∈R.E→L j=true→(R.ms.getD i 0).testBit j=true:=fun hc j hjE hL=>by
  have:=List.all_eq_true.1 hc j hjE
  rw [Bool.or_eq_true,Bool.or_eq_true] at this
  rcases this with g|g|g
  · have:=Nat.eq_of_beq_eq_true g
    subst this
    rw [hi] at hL;cases hL
  · exact g
  · have:=hcl j i hL g
    rw [hi] at this;cases this
 have hmore:(viewAt R (dw R.D st) path i).more (after (dw R.D st) path L):=
  aqn hfit hsub W.idx hi (fun k hk=>by
   cases hb:(R.ms.getD k 0).testBit i with
   |false=>rfl
   |true=>have:=hcl k i hk hb;rw [hi] at this;cases this) (fun hc j x hx hu hL=>aqZ hc j (heff j x hx hu hL) hL) fun e x hx hL q hq=>by
    obtain ⟨hj,_⟩:=List.getElem?_eq_some_iff.1 hx
    have hoj:ops[e]? =some (ops[e]'(by omega)):=by simp
    exact ((hok e _ x hoj hx hL).fit.2.2.2 q hq).1
 have awr:∀ q,bf (qp (pick path 0 L)) q=true→bf R.D (q / 64)=true∧q / 64≠d:=fun q hq=>by
  obtain ⟨x,hx,hxq⟩:=(qF _).1 hq
  obtain ⟨e,h1,h2⟩:=(mP _ _).1 hx
  rw [Nat.zero_add] at h1
  obtain ⟨hj,_⟩:=List.getElem?_eq_some_iff.1 h2
  have hoj:ops[e]? =some (ops[e]'(by omega)):=by simp
  have hf:=(hok e _ x hoj h2 h1).fit.2.2.2 q hxq
  refine ⟨hf.2,fun e2=>?_⟩
  obtain ⟨j,g1,g2⟩:=hA e q hf.1
  have:=W.idx i _ hy
  rw [hyd,← e2,g1] at this
  cases this
  have:=hcl e i h1 g2
  rw [hi] at this;cases this
 have hnone:∀ q,q / 64=d→(after (dw R.D st) path L).ak q=none:=fun q hq=>by
  have hqD:bf R.D (q / 64)=true:=by rw [hq];exact hdD
  have hP:(nP (dw R.D st) (pick path 0 L)).ak q=none:=by
   unfold nP
   dsimp only
   rw [Fj _ fun y hy'=>by
    cases hl:look y.u q with
    |none=>rfl
    |some z=>have:=(hfit.upd y hy' q z hl).2;rw [hqD] at this;cases this]
   dsimp only
   rw [MP _ fun y hy'=>by
    cases hl:look y.δ q with
    |none=>rfl
    |some z=>exact (hne y hy' ((yQ (hfit.new y hy') hl).symm.trans hq)).elim]
   exact am0 hqD
  unfold after
  rw [o9]
  simp only [St.kill,hP,Option.map_none]
  cases bf (qp (pick path 0 L)) q<;>rfl
 have hself:∀ x:fA,∀ j,(R.ms.getD i 0).testBit j=true→path[j]? =(path.set i x)[j]? :=fun x j hj=>by
  by_cases e:i=j
  · subst e
    rw [sK hm (Nat.le_refl _)] at hj;cases hj
  · rw [List.getElem?_set_ne e]
 have fin:∀ (x:fA) (γ':Nat→Value) (w':World) (u:Value),x.d=d→(o.dst=none→x.v= .pO [])→(∀ q y,look x.u q=some y→bf R.U q=true∧bf R.D (q / 64)=false)→Fh x.d x.δ=true→(x.u≠[]→i∈R.E)→(∀ q∈x.k,bf R.D (q / 64)=true∧q / 64≠d)→
  xI Θ Γ R (dw R.D st) path i o x→Rel w0 M T γ' (((yO x.k (after (dw R.D st) path L)).adds x.u).adds x.δ) a w'→bI (aA w0 T γ' (((yO x.k (after (dw R.D st) path L)).adds x.u).adds x.δ) w') x.v u→K (a.put o.dst u) w':=by
  intro x γ' w' u hxd hxv hxu hxn hxE hxk IB hR' hv
  have hn2:(((yO x.k (after (dw R.D st) path L)).adds x.u).adds x.δ).n=st.n:=by rw [(Hl _ _).2,(Hl _ _).2,o9];unfold after;rw [o9];rfl
  have avW:∀ q,bf (qp (pick (path.set i x) 0 L')) q=true→bf R.D (q / 64)=true∧q / 64≠d:=fun q hq=>by
   obtain ⟨y,hy1,hyq⟩:=(qF _).1 hq
   obtain ⟨e,h1,h2⟩:=(mP _ _).1 hy1
   rw [Nat.zero_add] at h1
   by_cases Tc:e=i
   · subst Tc
     rw [List.getElem?_set_self hil] at h2
     cases h2
     exact hxk q hyq
   · rw [List.getElem?_set_ne (Ne.symm Tc)] at h2
     rw [h e Tc] at h1
     exact awr q ((qF _).2 ⟨y,(mP _ _).2 ⟨e,by rw [Nat.zero_add];exact h1,h2⟩,hyq⟩)
  have ar9:∀ q,bf (qp (pick (path.set i x) 0 L')) q=true→(((yO x.k (after (dw R.D st) path L)).adds x.u).adds x.δ).ak q=none:=fun q hq=>by
   obtain ⟨g1,g2⟩:=avW q hq
   rw [pX,pX]
   have hδq:look x.δ q=none:=by
    cases hl:look x.δ q with
    |none=>rfl
    |some z=>exact (g2 ((yQ hxn hl).trans hxd)).elim
   have huq:look x.u q=none:=by
    cases hl:look x.u q with
    |none=>rfl
    |some z=>have:=(hxu q z hl).2;rw [g1] at this;cases this
   rw [hδq,huq]
   dsimp only
   rw [o9]
   unfold after
   rw [o9]
   obtain ⟨y,hy1,hyq⟩:=(qF _).1 hq
   obtain ⟨e,h1,h2⟩:=(mP _ _).1 hy1
   rw [Nat.zero_add] at h1
   by_cases Tc:e=i
   · subst Tc
     rw [List.getElem?_set_self hil] at h2
     cases h2
     simp only [St.kill,yP.2 hyq]
   · rw [List.getElem?_set_ne (Ne.symm Tc)] at h2
     rw [h e Tc] at h1
     have:=(qF (o:=q) (pick path 0 L)).2 ⟨y,(mP _ _).2 ⟨e,by rw [Nat.zero_add];exact h1,h2⟩,hyq⟩
     simp only [St.kill,this,Option.map_none]
     cases bf x.k q<;>rfl
  have hset:Rel w0 M T γ' (St.set (((yO x.k (after (dw R.D st) path L)).adds x.u).adds x.δ) x.d x.v) (a.put o.dst u) w':=by
   rcases aoq with hs|⟨hs,_,hs2⟩
   · rw [hs,← hxd]
     exact hR'.set x.d (by rw [hn2,hxd];exact hDn i o d ho hit hs) x.v u hv
   · rw [hs]
     exact hR'.avU x.d (by rw [hn2,hxd];exact hs2) x.v (hxv hs)
  have W':Way R ops t0 (path.set i x):=W.set hy (by rw [hxd,hyd])
  have aws:Fits R.D R.U (pick (path.set i x) 0 L'):=by
   refine W'.fits (Θ:=Θ) (Γ:=Γ) (base:=dw R.D st) hle fun j o' z ho' hz hL=>?_
   by_cases e:j=i
   · subst e
     rw [List.getElem?_set_self hil] at hz
     cases hz
     rw [ho] at ho';cases ho'
     exact IB.agree (hself x)
   · rw [List.getElem?_set_ne (Ne.symm e)] at hz
     rw [h j e] at hL
     refine (hok j o' z ho' hz hL).agree fun k hk=>?_
     have hLk:=hcl j k hL hk
     have hki:i≠k:=fun e=>by subst e;rw [hi] at hLk;cases hLk
     rw [List.getElem?_set_ne hki]
  rw [ar4 hil hi hi' h aws (fun y hy'=>by rw [hxd];exact hne y hy') (fun hu j y hj hL hy'=>by
   refine Classical.byContradiction fun hyu=>?_
   have hjE:=heff j y hy' hyu hL
   have:=aqZ (hcmp i (hxE hu)) j hjE hL
   rw [sK hm (Nat.le_of_lt hj)] at this;cases this) (AV.zM ar9 _ _ hv) (fun q y hq=>by
   have qo:(((yO x.k (after (dw R.D st) path L)).adds x.u).adds x.δ).ak q=some y:=by
    rw [pX,pX]
    rcases hq with hq|hq
    · rw [hq]
    · have:look x.δ q=none:=by
       cases hl:look x.δ q with
       |none=>rfl
       |some z=>
        have h1:=(hxu q y hq).2
        rw [(yQ hxn hl).trans hxd,hdD] at h1;cases h1
      rw [this,hq]
   refine ⟨?_,aQ.zM ar9 y (hR'.ak q y qo)⟩
   cases hb:bf (qp (pick (path.set i x) 0 L')) q with
   |false=>rfl
   |true=>rw [ar9 q hb] at qo;cases qo)] at hset
  exact hK x γ' _ _ ⟨_,hy,by rw [hxd,hyd]⟩ (IB.agree (hself x)) hset
 have fin2:∀ (x:fA) (γ':Nat→Value) (w':World) (u:Value),x.d=d→x.u=[]→(o.dst=none→False)→Fh x.d x.δ=true→(∀ q∈x.k,bf R.D (q / 64)=true∧q / 64≠d)→
  xI Θ Γ R (dw R.D st) path i o (sD R.F x)→Rel w0 M T γ' (((yO x.k (after (dw R.D st) path L)).adds []).adds x.δ) a w'→bI (aA w0 T γ' (((yO x.k (after (dw R.D st) path L)).adds []).adds x.δ) w') x.v u→K (a.put o.dst u) w':=by
  intro x γ' w' u hxd hxu hno hxn hxk IB hR' hv
  obtain ⟨l1,l2,l3,l4⟩:=uw R.F x
  refine fin (sD R.F x) γ' w' u (l1.trans hxd) (fun h=>(hno h).elim) (fun q y hy=>by rw [l2,hxu] at hy;cases hy) (List.all_eq_true.2 fun y hy=>by rw [l1];exact List.all_eq_true.1 hxn y (l4 y hy)) (fun hne=>(hne (l2.trans hxu)).elim) (by rw [l3];exact hxk) IB ?_ ?_
  all_goals
   rw [l3,l2,hxu]
   unfold sD
   split
   · next q q' e r l fr _ hv2 hu2 hδ=>
     split
     · next hb=>
       have e1:=Nat.eq_of_beq_eq_true hb
       subst e1
       rw [hδ] at hR' hv hxn
       rw [hv2] at hv
       have hqd:q / 64=d:=by
        have:=Nat.eq_of_beq_eq_true (List.all_eq_true.1 hxn _ List.mem_cons_self)
        exact this.trans hxd
       have hq0:(yO x.k (after (dw R.D st) path L)).ak q=none:=by
        rw [o9]
        simp only [St.kill,hnone q hqd,Option.map_none]
        cases bf x.k q<;>rfl
       have:=auj (hR.yO x.k) hq0 hR' hv
       first|exact this.1|exact this.2
     · first|exact hR'|exact hv
   · first|exact hR'|exact hv
 have hgv:∀ g b y,o.guard=some (g,b)→(R.ms.getD i 0).testBit g=true→path[g]? =some y→∃ og,ops[g]? =some og∧og.dst=some y.d∧∃ u,a.tmps[y.d]? =some u∧bI (aA w0 T γ (after (dw R.D st) path L) w) (y.v.kill (bf (qp (pick path 0 L)))) u:=by
  intro g b y hgo hg hy'
  obtain ⟨hgl,_⟩:=List.getElem?_eq_some_iff.1 hy'
  have hog:ops[g]? =some (ops[g]'(by omega)):=by simp
  have avY:(ops[g]'(by omega)).dst=some y.d:=by
   obtain ⟨og,e,h1,h2⟩:=hgd i o g b ho hit hgo
   rw [hog] at h1;cases h1
   have:=W.dst g _ y hog hy'
   unfold yC at this
   rw [h2] at this
   rw [h2];exact this
  have hyD:y.d<st.n:=hDn g _ _ hog (by omega) avY
  have hin:y∈pick path 0 L:=(mP _ _).2 ⟨g,by rw [Nat.zero_add];exact hsub g hg,hy'⟩
  have ZF:(after (dw R.D st) path L).tmps y.d=y.v.kill (bf (qp (pick path 0 L))):=by
   unfold after
   rw [o9]
   show (BN (pick path 0 L) y.d _).kill _=_
   rw [PW _ hin fun z hz e=>hfit.one y hin z hz e]
  have hr1:=hR.tmps y.d
  rw [ZF] at hr1
  have hsz:y.d<a.tmps.size:=by
   rw [hR.size]
   unfold after
   rw [o9]
   exact hyD
  refine ⟨_,hog,avY,a.tmps[y.d],by simp,?_⟩
  simpa [Array.getD,hsz] using hr1
 unfold wpOp
 simp only [ho]
 rcases hcase with ⟨hw,hcase⟩|hun
 · have hwant:Region.wanted o (yielded ops a.tmps)=true:=by
    rcases hw with e|⟨g,b,y,e1,e2,e3,e4⟩
    · unfold Region.wanted;rw [e]
    · obtain ⟨og,k1,k2,u,k3,k4⟩:=hgv g b y e1 e2 e3
      rw [e4] at k4
      have k4:u= .bool b:=k4
      subst k4
      unfold Region.wanted
      rw [e1]
      simp [yielded,k1,k2,k3]
   rw [if_pos hwant]
   left
   rcases hcase with ⟨he,ha,p,v,δ,hcalm,hp,hn⟩|⟨he,ha,p,q,y,happ,hp,hq1,hq2,hq3⟩|⟨he,hst,υ,hυ,hin⟩|⟨⟨he,hst⟩,p,ρ,os,hrel,hp,hall⟩
   · obtain ⟨v',hc',hless⟩:=asL hmore d o.op hcalm
     have hfr:kJ (after (dw R.D st) path L) δ=true:=by
      refine List.all_eq_true.2 fun z hz=>?_
      rw [hnone z.1 (Nat.eq_of_beq_eq_true (List.all_eq_true.1 hn z hz))]
      rfl
     refine Mc hE hR o hc' hp hfr ?_
     intro u γ' w' hR' hv'
     have hvx:bI (aA w0 T γ' ((after (dw R.D st) path L).adds δ) w') v u:=by
      rcases hless with e|e
      · rw [e];trivial
      · rw [← e];exact hv'
     have IB:xI Θ Γ R (dw R.D st) path i o (sD R.F ⟨d,v,[],δ,[]⟩):=by
      obtain ⟨l1,_⟩:=uw R.F ⟨d,v,[],δ,[]⟩
      refine ⟨by rw [l1];exact hd,hm, .inl ⟨hw, .inl ⟨he,ha,p,v,δ,by rw [l1];exact hcalm,hp,by rw [l1];exact hn,by rw [l1]⟩⟩⟩
     exact fin2 ⟨d,v,[],δ,[]⟩ γ' w' u rfl rfl (fun h=>by
      rcases aoq with hs|⟨_,hs,_⟩
      · rw [h] at hs;cases hs
      · rw [am3 hs] at he;cases he) hn (fun q hq=>by cases hq) IB hR' hvx
   · have awt:=aqg hmore happ
     have IB:xI Θ Γ R (dw R.D st) path i o (sD R.F ⟨d, .sv (.one (.ref (d*64+1))),[],[(d*64+1,y)],[q]⟩):=by
      obtain ⟨l1,_⟩:=uw R.F ⟨d, .sv (.one (.ref (d*64+1))),[],[(d*64+1,y)],[q]⟩
      refine ⟨by rw [l1];exact hd,hm, .inl ⟨hw, .inr (.inl ⟨he,ha,p,q,y,happ,hp,by rw [l1];exact ⟨hq1,hq2,hq3⟩,by rw [l1]⟩)⟩⟩
     have hkq:∀ s:St,s.kill (bf [q])=s.kill (Nat.beq q ·):=fun s=>by
      rw [show bf [q]=(Nat.beq q ·) from funext fun o=>by
       simp only [bf]
       cases h1:Nat.beq o q with
       |true=>rw [Nat.eq_of_beq_eq_true h1,Nat.beq_refl]
       |false=>
        cases h2:Nat.beq q o with
        |false=>rfl
        |true=>rw [Nat.eq_of_beq_eq_true h2,Nat.beq_refl] at h1;cases h1]
     refine asU hE hR o (n:=d*64+1) awt hp (hnone (d*64+1) (avm d)) fun u γ' w' hR' hv=>?_
     rw [← hkq] at hR' hv
     exact fin2 ⟨d, .sv (.one (.ref (d*64+1))),[],[(d*64+1,y)],[q]⟩ γ' w' u rfl rfl (fun h=>by
      rcases aoq with hs|⟨_,hs,_⟩
      · rw [h] at hs;cases hs
      · rw [am3 hs] at he;cases he) (by
        show (Nat.beq ((d*64+1) / 64) d&&true)=true
        rw [show (d*64+1) / 64=d by omega,Nat.beq_refl];rfl)
      (fun r hr=>by rw [show r=q by simpa using hr];exact ⟨hq1,hq2⟩) IB hR' hv
   · have IB:xI Θ Γ R (dw R.D st) path i o ⟨d, .pO [],υ,[],[]⟩:=⟨hd,hm, .inl ⟨hw, .inr (.inr (.inl ⟨he,hst,υ,hυ,hin,rfl⟩))⟩⟩
     obtain ⟨f1,f2,f3,_⟩:=IB.fit
     refine alf hE hR hmore o hυ fun γ' w' hR'=>?_
     exact fin ⟨d, .pO [],υ,[],[]⟩ γ' w' undef rfl (fun _=>rfl) f2 f1 (fun _=>hEi i o ho hit he) (fun q hq=>by cases hq) IB hR' ⟨#[],rfl,trivial⟩
   · refine apm hE hR hmore o hrel hp hnone hall fun t v υ δ u γ' w' ht hres hR' hv=>?_
     have IB:xI Θ Γ R (dw R.D st) path i o ⟨d,v,υ,δ,[]⟩:=⟨hd,hm, .inl ⟨hw, .inr (.inr (.inr ⟨⟨he,hst⟩,rfl,p,ρ,os,t,hrel,hp,ht,hall,hres⟩))⟩⟩
     obtain ⟨f1,f2,f3,_⟩:=IB.fit
     exact fin ⟨d,v,υ,δ,[]⟩ γ' w' u rfl (fun h=>by
      rcases aoq with hs|⟨_,hs,_⟩
      · rw [h] at hs;cases hs
      · rw [hst] at hs;cases hs) f2 f1 (fun _=>hEi i o ho hit he) (fun q hq=>by cases hq) IB hR' hv
 · have hwant:Region.wanted o (yielded ops a.tmps)=false:=by
    obtain ⟨g,b,y,e1,e2,e3,e4⟩:=hun
    obtain ⟨og,k1,k2,u,k3,k4⟩:=hgv g b y e1 e2 e3
    unfold Region.wanted
    rw [e1]
    rcases e4 with ⟨c,e4,hne'⟩|⟨vs,e4⟩
    · rw [e4] at k4
      have k4:u= .bool c:=k4
      subst k4
      cases c<;>cases b<;>first|(exact (hne' rfl).elim)|simp [yielded,k1,k2,k3]
    · rw [e4] at k4
      obtain ⟨us,rfl,_⟩:=k4
      simp [yielded,k1,k2,k3]
   rw [if_neg (by rw [hwant];simp)]
   exact fin (skipped d) γ w undef rfl (fun _=>rfl) (fun q y hy=>by cases hy) rfl (fun hu=>(hu rfl).elim) (fun q hq=>by cases hq) ⟨hd,hm, .inr ⟨hun,rfl⟩⟩ hR ⟨#[],rfl,trivial⟩
theorem fill {G:kQ} (hE:EnvB P G Θ Γ) {R:Reg} {base:St} {front:List Oper} {path:List fA} {L:Nat→Bool}
 (UZ:∀ ext:List fA,afr Θ Γ R base front ext→∀ o,front[ext.length]? =some o→Enabled Θ Γ R base ext ext.length o)
 (hok:∀ j o x,front[j]? =some o→path[j]? =some x→L j=true→xI Θ Γ R base path j o x) (hlen:path.length=front.length)
 (hcl:∀ j k,L j=true→(R.ms.getD j 0).testBit k=true→L k=true):
 ∀ n,n≤front.length→∃ ext:List fA,ext.length=n∧afr Θ Γ R base front ext∧∀ j,j<n→L j=true→ext[j]? =path[j]? :=by
 intro n
 induction n with
 |zero=>exact fun _=>⟨[],rfl,(fun i o x _ hx=>by simp at hx),(fun j hj=>by omega)⟩
 |succ n ih=>
  intro hn
  obtain ⟨ext,h1,h2,h3⟩:=ih (by omega)
  have ho:front[n]? =some (front[n]'(by omega)):=by simp
  have more:∀ x:fA,xI Θ Γ R base (ext++[x]) n (front[n]'(by omega)) x→afr Θ Γ R base front (ext++[x]):=by
   intro x hx i o y hi hy
   rcases Nat.lt_or_ge i n with hlt|hge
   · rw [DI (by omega)] at hy
     have:=h2 i o y hi hy
     refine this.agree fun j hj=>?_
     have:j<i:=by
      rcases Nat.lt_or_ge j i with h|h
      · exact h
      · rw [sK this.2.1 h] at hj;cases hj
     rw [DI (by omega)]
   · have:i=n:=by
      obtain ⟨hi',_⟩:=List.getElem?_eq_some_iff.1 hy
      simp at hi';omega
     subst this
     rw [ho] at hi;cases hi
     have e:y=x:=by rw [← h1] at hy;simpa using hy.symm
     rw [e];exact hx
  cases hL:L n with
  |true=>
   have hp:path[n]? =some (path[n]'(by omega)):=by simp
   have hx:=hok n _ _ ho hp hL
   have hag:∀ j,(R.ms.getD n 0).testBit j=true→path[j]? =(ext++[path[n]'(by omega)])[j]? :=fun j hj=>by
    have hjn:j<n:=by
     rcases Nat.lt_or_ge j n with h|h
     · exact h
     · rw [sK hx.2.1 h] at hj;cases hj
    rw [DI (by omega),h3 j hjn (hcl n j hL hj)]
   refine ⟨ext++[path[n]'(by omega)],by simp [h1],more _ (hx.agree hag),fun j hj hLj=>?_⟩
   by_cases e:j=n
   · subst e
     rw [hp,List.getElem?_append_right (by omega)]
     simp [h1]
   · rw [DI (by omega)]
     exact h3 j (by omega) hLj
  |false=>
   have hen:=UZ ext h2 _ (by rw [h1];exact ho)
   rw [h1] at hen
   have hag:∀ x:fA,(∃ d,yC R.n n (front[n]'(by omega))=some d∧R.ms.getD n 0<2 ^ n)→∀ j,(R.ms.getD n 0).testBit j=true→ext[j]? =(ext++[x])[j]? :=fun x ⟨_,_,hm⟩ j hj=>by
    have hjn:j<n:=by
     rcases Nat.lt_or_ge j n with h|h
     · exact h
     · rw [sK hm h] at hj;cases hj
    rw [DI (by omega)]
   obtain ⟨d,hd,hm,hc⟩:=hen
   have hx:∃ x,xI Θ Γ R base ext n (front[n]'(by omega)) x:=by
    rcases hc with ⟨hw,⟨he,ha,p,v,δ,hcalm,hp,hnm⟩|⟨he,ha,p,q,y,happ,hp,hq⟩|⟨he,hst,υ,hυ,hin⟩|⟨⟨he,hst⟩,p,ρ,os,hrel,hp,hall⟩⟩|hun
    · exact ⟨sD R.F ⟨d,v,[],δ,[]⟩,by rw [(uw _ _).1];exact hd,hm, .inl ⟨hw, .inl ⟨he,ha,p,v,δ,by rw [(uw _ _).1];exact hcalm,hp,by rw [(uw _ _).1];exact hnm,by rw [(uw _ _).1]⟩⟩⟩
    · exact ⟨sD R.F ⟨d, .sv (.one (.ref (d*64+1))),[],[(d*64+1,y)],[q]⟩,by rw [(uw _ _).1];exact hd,hm, .inl ⟨hw, .inr (.inl ⟨he,ha,p,q,y,happ,hp,by rw [(uw _ _).1];exact hq,by rw [(uw _ _).1]⟩)⟩⟩
    · exact ⟨⟨d, .pO [],υ,[],[]⟩,hd,hm, .inl ⟨hw, .inr (.inr (.inl ⟨he,hst,υ,hυ,hin,rfl⟩))⟩⟩
    · have hne:∃ t,ρ.R t:=by
       unfold SX at hrel
       split at hrel
       case h_2=>cases hrel
       next f args uq hop=>
       split at hrel
       case h_2=>cases hrel
       next ms con hcon=>
       split at hrel
       case h_2=>cases hrel
       next vs os' ZB=>
       split at hrel
       case h_2=>cases hrel
       split at hrel
       case h_2=>cases hrel
       next q ρ' hq=>
       cases hrel
       exact ((hE.aok f ms con hcon).1 vs _ ρ hq hp).1
      obtain ⟨t,ht⟩:=hne
      obtain ⟨⟨v,υ,δ⟩,hres⟩:=hall t ht
      exact ⟨⟨d,v,υ,δ,[]⟩,hd,hm, .inl ⟨hw, .inr (.inr (.inr ⟨⟨he,hst⟩,rfl,p,ρ,os,t,hrel,hp,ht,hall,hres⟩))⟩⟩
    · exact ⟨skipped d,hd,hm, .inr ⟨hun,rfl⟩⟩
   obtain ⟨x,hx⟩:=hx
   refine ⟨ext++[x],by simp [h1],more x (hx.agree (hag x ⟨d,hd,hm⟩)),fun j hj hLj=>?_⟩
   have:j≠n:=fun e=>by subst e;rw [hL] at hLj;cases hLj
   rw [DI (by omega)]
   exact h3 j (by omega) hLj
end Go.Fw
namespace Go.Fw
open Go
variable {P:Program}
def handsOn (o:Oper):Option Operand:=match o.op,o.guard with
 | .move x,none=>some x
 | .extract x _,none=>some x
 |_,_=>none
def Operand.Oc (d:Nat):Operand→Bool
 | .tmp t=>!(Nat.beq t d)
 |_=>true
def afs (d:Nat) (o:Oper):Bool:=match o.op,o.guard with
 | .move x,none| .assign x,none| .extract x _,none=>Operand.Oc d x
 | .store _ a x,none=>Operand.Oc d a&&Operand.Oc d x
 |_,_=>false
def passes (f o:Oper):Bool:=match handsOn f,f.dst with
 |some x,some d=>afs d o&&(match o.dst with|some e=>!(Nat.beq e d)&&Operand.Oc e x|none=>true)
 |_,_=>false
theorem eval_put_ne {a:Act} {d:Option Tmp} {v:Value} {x:Operand} (h:∀ e,d=some e→Operand.Oc e x=true):(a.put d v).eval x=a.eval x:=by
 cases d with
 |none=>rfl
 |some e=>
  cases x with
  |tmp t=>
   have:=h e rfl
   have hne:e≠t:=fun h=>by subst h;simp [Operand.Oc] at this
   show (a.tmps.setIfInBounds e v).getD t undef=a.tmps.getD t undef
   simp only [Array.getD_eq_getD_getElem?]
   rw [Array.getElem?_setIfInBounds_ne hne]
  |const _=>rfl
  |global _=>rfl
  |func _=>rfl
theorem put_comm {a:Act} {d e:Option Tmp} {u v:Value} (h:∀ x y,d=some x→e=some y→x≠y):(a.put d u).put e v=(a.put e v).put d u:=by
 cases d with
 |none=>rfl
 |some x=>cases e with
  |none=>rfl
  |some y=>
   have:=h x y rfl rfl
   simp only [Act.put]
   rw [Array.setIfInBounds_comm _ _ this]
theorem apn {f:Oper} {x:Operand} (hf:handsOn f=some x):f.guard=none∧
 ((∃ g:Value→Option Value,(∀ b:Act,∀ w',(match g (b.eval x) with|some u=>(execOp b.eval f).run P w'= .ok (.value u) w'|none=>∃ m,(execOp b.eval f).run P w'=m∧∀ next Q,¬ f.upon P b next Q m)))):=by
 unfold handsOn at hf
 split at hf
 · next y hop hg=>
   cases hf
   exact ⟨hg,fun v=>some v,fun b w'=>by simp [execOp,hop]⟩
 · next y ix hop hg=>
   cases hf
   refine ⟨hg,fun v=>match v with| .tuple vs=>vs[ix]? |_=>none,fun b w'=>?_⟩
   cases hv:b.eval x with
   |tuple vs=>
    simp only
    cases hq:vs[ix]? with
    |some u=>simp [execOp,hop,hv,Instr.extract,hq]
    |none=>
     refine ⟨_,rfl,fun next Q=>?_⟩
     simp [execOp,hop,hv,Instr.extract,hq,stuck,Oper.upon]
   |_=>
    refine ⟨_,rfl,fun next Q=>?_⟩
    simp [execOp,hop,hv,Instr.extract,stuck,Oper.upon]
 · cases hf
theorem anS {d:Nat} {o:Oper} (h:afs d o=true):o.guard=none∧
 (∀ (a:Act) (v:Value),execOp (a.put (some d) v).eval o=execOp a.eval o)∧
 (∀ (a:Act) (w:World),(∃ v w',(execOp a.eval o).run P w= .ok (.value v) w')∨(∃ w',(execOp a.eval o).run P w= .ok .skip w')∨∃ x w',(execOp a.eval o).run P w= .halt x w'):=by
 unfold afs at h
 have ev:∀ (a:Act) (v:Value) (x:Operand),Operand.Oc d x=true→(a.put (some d) v).eval x=a.eval x:=fun a v x hx=>eval_put_ne fun e he=>by cases he;exact hx
 split at h
 · next x hop hg=>
   refine ⟨hg,fun a v=>?_,fun a w=> .inl ⟨a.eval x,w,?_⟩⟩
   · simp only [execOp,hop,ev a v x h]
   · simp [execOp,hop]
 · next x hop hg=>
   refine ⟨hg,fun a v=>?_,fun a w=> .inl ⟨a.eval x,w,?_⟩⟩
   · simp only [execOp,hop,ev a v x h]
   · simp [execOp,hop]
 · next x ix hop hg=>
   refine ⟨hg,fun a v=>?_,fun a w=>?_⟩
   · simp only [execOp,hop,ev a v x h]
   · cases hr:(Instr.extract (a.eval x) ix).run P w with
     |ok u w'=>exact .inl ⟨u,w',by simp [execOp,hop,hr]⟩
     |halt u w'=>exact .inr (.inr ⟨u,w',by simp [execOp,hop,hr]⟩)
 · next t b x hop hg=>
   rw [Bool.and_eq_true] at h
   refine ⟨hg,fun a v=>?_,fun a w=>?_⟩
   · simp only [execOp,hop,ev a v b h.1,ev a v x h.2]
   · cases hr:(Instr.storeAt t (a.eval b) (a.eval x)).run P w with
     |ok u w'=>exact .inr (.inl ⟨w',by simp [execOp,hop,hr]⟩)
     |halt u w'=>exact .inr (.inr ⟨u,w',by simp [execOp,hop,hr]⟩)
 · cases h
def stepW (P:Program) (ops:Array Oper) (Q:Exit→Act→World→Prop) (o:Oper) (K:Act→World→Prop) (a:Act) (w:World):Prop:=
 if Region.wanted o (yielded ops a.tmps) then o.wp P a w K Q∨(o.asks P a w∧LetsOut Q) else K (a.put o.dst undef) w
theorem U0 {ops:Array Oper} {Q:Exit→Act→World→Prop} {o:Oper} {K K':Act→World→Prop} {a:Act} {w:World} (h:∀ a w,K a w→K' a w) (hs:stepW P ops Q o K a w):stepW P ops Q o K' a w:=by
 unfold stepW at*
 split
 · next hw=>rw [if_pos hw] at hs;exact hs.imp (Oper.wp_mono h) id
 · next hw=>rw [if_neg hw] at hs;exact h _ _ hs
theorem MQ {ops:Array Oper} {Q:Exit→Act→World→Prop} (hO:¬ LetsOut Q) {o:Oper} (hg:o.guard=none) {K:Act→World→Prop} {a:Act} {w:World}:stepW P ops Q o K a w↔o.wp P a w K Q:=by
 have hw:Region.wanted o (yielded ops a.tmps)=true:=by simp [Region.wanted,hg]
 unfold stepW
 rw [if_pos hw]
 exact ⟨fun h=>h.elim id fun h=>(hO h.2).elim, .inl⟩
theorem asa {ops:Array Oper} {Q:Exit→Act→World→Prop} (hQ:∀ c a w,¬ Q (.panic c) a w) (hO:¬ LetsOut Q) {f o:Oper} (h:passes f o=true) {K:Act→World→Prop} {a:Act} {w:World}
 (hs:stepW P ops Q f (stepW P ops Q o K) a w):stepW P ops Q o (stepW P ops Q f K) a w:=by
 unfold passes at h
 split at h
 · next x d hx hd=>
   rw [Bool.and_eq_true] at h
   obtain ⟨hp,hde⟩:=h
   obtain ⟨hgf,g,hg⟩:=apn (P:=P) hx
   obtain ⟨hgo,hsame,hout⟩:=anS (P:=P) hp
   rw [MQ hO hgf] at hs
   rw [MQ hO hgo]
   have hxo:∀ (v:Value),(a.put o.dst v).eval x=a.eval x:=fun v=>eval_put_ne fun e he=>by
    rw [he] at hde;simp only [Bool.and_eq_true] at hde;exact hde.2
   have hcomm:∀ (u v:Value),(a.put f.dst u).put o.dst v=(a.put o.dst v).put f.dst u:=fun u v=>put_comm fun x y hx hy=>by
    rw [hd] at hx;cases hx
    rw [hy] at hde;simp only [Bool.and_eq_true,Bool.not_eq_true'] at hde
    intro e;subst e;simp at hde
   have h0:=hg a w
   cases hga:g (a.eval x) with
   |none=>
    rw [hga] at h0
    obtain ⟨m,hm,hno⟩:=h0
    unfold Oper.wp at hs
    rw [hm] at hs
    exact (hno _ _ hs).elim
   |some u=>
    rw [hga] at h0
    simp only at h0
    unfold Oper.wp at hs
    rw [h0] at hs
    have hs:stepW P ops Q o K (a.put f.dst u) w:=hs
    rw [MQ hO hgo] at hs
    unfold Oper.wp at hs ⊢
    rw [hd,hsame] at hs
    rw [← hd] at hs
    have again:∀ (v:Value) (w':World),K ((a.put f.dst u).put o.dst v) w'→stepW P ops Q f K (a.put o.dst v) w':=by
     intro v w' hK
     rw [MQ hO hgf]
     have h1:=hg (a.put o.dst v) w'
     rw [hxo,hga] at h1
     simp only at h1
     unfold Oper.wp
     rw [h1]
     show K _ _
     rw [← hcomm];exact hK
    rcases hout a w with ⟨v,w',hr⟩|⟨w',hr⟩|⟨y,w',hr⟩
    · rw [hr] at hs ⊢
      exact again v w' hs
    · rw [hr] at hs ⊢
      exact again undef w' hs
    · rw [hr] at hs
      cases y<;>simp only [Oper.upon] at hs
      exact (hQ _ _ _ hs).elim
 · cases h
def IC (P:Program) (ops:Array Oper) (Q:Exit→Act→World→Prop) (K:Act→World→Prop):List Oper→Act→World→Prop
 |[]=>K
 |o::r=>stepW P ops Q o (IC P ops Q K r)
theorem aem {ops:Array Oper} {Q:Exit→Act→World→Prop}:∀ (l:List Oper),IC P ops Q (Q .normal) l=wpList P ops Q l
 |[]=>rfl
 |o::r=>by
  funext a w
  rw [IC,aem r]
  rfl
theorem aft {ops:Array Oper} {Q:Exit→Act→World→Prop} (hQ:∀ c a w,¬ Q (.panic c) a w) (hO:¬ LetsOut Q) {o:Oper} {K:Act→World→Prop} (B:List Oper):
 ∀ (A:List Oper) (a:Act) (w:World),(∀ f∈A,passes f o=true)→IC P ops Q K (A++o::B) a w→stepW P ops Q o (IC P ops Q K (A++B)) a w
 |[],_,_,_,hs=>hs
 |f::A,a,w,h,hs=>by
  have hs:stepW P ops Q f (IC P ops Q K (A++o::B)) a w:=hs
  exact asa hQ hO (h f List.mem_cons_self) (U0 (fun a w h'=>aft hQ hO B A a w (fun f hf=>h f (List.mem_cons_of_mem _ hf)) h') hs)
theorem wpOp_step {ops:Array Oper} {Q:Exit→Act→World→Prop} {i:Nat} {o:Oper} (ho:ops[i]? =some o) {K:Act→World→Prop} {a:Act} {w:World}:wpOp P ops Q i K a w↔stepW P ops Q o K a w:=by
 unfold wpOp stepW
 simp only [ho]
theorem ZV {ops:Array Oper} {listed:Array Bool} (hcl:∀ i j,listed.getD i false=true→((masks ops.toList []).getD i 0).testBit j=true→listed.getD j false=true) {i:Nat} {o:Oper} (ho:ops[i]? =some o)
 (hi:i∈Region.ready .any ops listed) (j:Nat) (hj:((masks ops.toList []).getD i 0).testBit j=true):listed.getD j false=true:=by
 obtain ⟨o',ho',hn,hall⟩:=EX.1 hi
 rw [ho] at ho';cases ho'
 obtain ⟨e,he,hb,hej⟩:=atd (ops:=ops.toList) (i:=i) (o:=o) (by simpa using ho) hj
 rcases hej with rfl|h
 · exact hall e he hb
 · exact hcl e.on j (hall e he hb) h
theorem aum {ops:Array Oper} {Q:Exit→Act→World→Prop} (hQ:∀ c a w,¬ Q (.panic c) a w) (hO:¬ LetsOut Q) {t0:Nat} {S:Nat→Prop}
 (hfl:∀ i o j f,ops[i]? =some o→ops[j]? =some f→j<i→t0≤i∨(S i∧S j)→((masks ops.toList []).getD i 0).testBit j=true∨(S j∧passes f o=true)) (hS:∀ j,S j→j<t0)
 (hlt:∀ i o,ops[i]? =some o→(masks ops.toList []).getD i 0<2 ^ i):
 ∀ (fuel:Nat) (F:List (Nat×Oper)) (l:List Oper) (k:Nat) (listed:Array Bool) (a:Act) (w:World),t0≤k→k≤ops.size→(∀ j,l[j]? =ops[k+j]?)→listed.size=ops.size→
   (∀ x∈F,ops[x.1]? =some x.2∧S x.1)→F.Pairwise (fun x y=>x.1<y.1)→
   (∀ i,i<ops.size→(listed.getD i false=true↔i<k∧∀ x∈F,x.1≠i))→
   (∀ i j,listed.getD i false=true→((masks ops.toList []).getD i 0).testBit j=true→listed.getD j false=true)→
   F.length+ops.size≤k+fuel→IC P ops Q (Q .normal) (F.map (·.2)++l) a w→wpAny P .any ops Q fuel listed a w:=by
 intro fuel
 have ati:∀ {i:Nat} {o:Oper},ops[i]? =some o→∀ e∈o.after,Region.binds .any e=true→e.on<i:=by
  intro i o ho e he hb
  have ah3:=amY (ops:=ops.toList) (i:=i) (o:=o) (by simpa using ho) he hb
  rcases Nat.lt_or_ge e.on i with h|h
  · exact h
  · rw [sK (hlt i o ho) h] at ah3;cases ah3
 have avn:∀ (k:Nat) (l:List Oper) (listed:Array Bool),(∀ j,l[j]? =ops[k+j]?)→listed.size=ops.size→(∀ i,i<ops.size→(listed.getD i false=true↔i<k∧∀ x∈([]:List (Nat×Oper)),x.1≠i))→l=[]→Region.ready .any ops listed=[]:=by
  intro k l listed hl hsz hL hnil
  have hend:ops.size≤k:=by
   rcases Nat.lt_or_ge k ops.size with h|h
   · have:=hl 0;simp [h,hnil] at this
   · exact h
  refine List.eq_nil_iff_forall_not_mem.2 fun i hi=>?_
  obtain ⟨o,ho,hn,_⟩:=EX.1 hi
  obtain ⟨hi1,_⟩:=Array.getElem?_eq_some_iff.1 ho
  have:=(hL i hi1).2 ⟨by omega,fun x hx=>by cases hx⟩
  rw [Hr (by omega),this] at hn;cases hn
 induction fuel with
 |zero=>
  intro F l k listed a w hk hkz hl hsz hF hp hL hcl hf hw
  have hk2:ops.size≤k∧F.length=0:=by
   rcases Nat.lt_or_ge k ops.size with h|h
   · omega
   · refine ⟨h,?_⟩
     cases F with
     |nil=>rfl
     |cons x F=>
      exfalso
      have:=hl 0
      obtain ⟨h1,h2⟩:=hF x List.mem_cons_self
      have:=hS _ h2
      simp only [List.length_cons] at hf
      omega
  obtain ⟨hk2,hF0⟩:=hk2
  have hFn:F=[]:=List.length_eq_zero_iff.1 hF0
  subst hFn
  have hln:l=[]:=by
   cases l with
   |nil=>rfl
   |cons o l=>have:=hl 0;rw [Array.getElem?_eq_none (by omega)] at this;cases this
  subst hln
  exact wpAny_done (avn k [] listed hl hsz hL rfl) hw 0
 |succ fuel ih=>
  intro F l k listed a w hk hkz hl hsz hF hp hL hcl hf hw
  have hset:∀ i,i<listed.size→∀ j,(listed.setIfInBounds i true).getD j false=(if j=i then true else listed.getD j false):=by
   intro i hi j
   split
   · next e=>subst e;simp [Array.getD,hi]
   · next e=>exact getD_set_ne false (Ne.symm e)
  have atj:∀ i o,ops[i]? =some o→i∈Region.ready .any ops listed→∀ j m,(listed.setIfInBounds i true).getD j false=true→((masks ops.toList []).getD j 0).testBit m=true→(listed.setIfInBounds i true).getD m false=true:=by
   intro i o ho hi j m hj hm
   obtain ⟨hi1,_⟩:=Array.getElem?_eq_some_iff.1 ho
   rw [hset i (by omega)] at hj ⊢
   split
   · rfl
   · split at hj
     · next e=>subst e;exact ZV hcl ho hi m hm
     · exact hcl j m hj hm
  refine ⟨fun hnone=>?_,fun i hi=>?_⟩
  · cases F with
    |cons x F=>
     exfalso
     obtain ⟨hx1,hx2⟩:=hF x List.mem_cons_self
     have ayR:=hS _ hx2
     obtain ⟨hxs,_⟩:=Array.getElem?_eq_some_iff.1 hx1
     have hun:listed.getD x.1 true=false:=by
      rw [Hr (by omega)]
      cases hb:listed.getD x.1 false with
      |false=>rfl
      |true=>exact (((hL x.1 hxs).1 hb).2 x List.mem_cons_self rfl).elim
     have:x.1∈Region.ready .any ops listed:=by
      refine EX.2 ⟨x.2,hx1,hun,fun e he hb=>?_⟩
      have aun:=ati hx1 e he hb
      refine (hL e.on (by omega)).2 ⟨by omega,fun y hy=>?_⟩
      rcases List.mem_cons.1 hy with rfl|hy
      · omega
      · have:=(List.pairwise_cons.1 hp).1 y hy;omega
     rw [hnone] at this;cases this
    |nil=>
     cases l with
     |nil=>exact hw
     |cons o l=>
      exfalso
      have ho:ops[k]? =some o:=by simpa using (hl 0).symm
      obtain ⟨hks,_⟩:=Array.getElem?_eq_some_iff.1 ho
      have hun:listed.getD k true=false:=by
       rw [Hr (by omega)]
       cases hb:listed.getD k false with
       |false=>rfl
       |true=>have:=((hL k hks).1 hb).1;omega
      have:k∈Region.ready .any ops listed:=by
       refine EX.2 ⟨o,ho,hun,fun e he hb=>?_⟩
       have aun:=ati ho e he hb
       exact (hL e.on (by omega)).2 ⟨by omega,fun y hy=>by cases hy⟩
      rw [hnone] at this;cases this
  · obtain ⟨o,ho,hn,_⟩:=EX.1 hi
    obtain ⟨his,_⟩:=Array.getElem?_eq_some_iff.1 ho
    have hun:listed.getD i false=false:=by rw [← Hr (by omega)];exact hn
    have hsub:=ZV hcl ho hi
    rw [wpOp_step ho]
    by_cases hFi:∃ x∈F,x.1=i
    · obtain ⟨x,hxF,rfl⟩:=hFi
      obtain ⟨A,B,rfl⟩:=List.append_of_mem hxF
      obtain ⟨hx1,hx2⟩:=hF x hxF
      rw [ho] at hx1
      have hxo:x.2=o:=(Option.some.inj hx1).symm
      have hpA:∀ y∈A,y.1<x.1:=fun y hy=>(List.pairwise_append.1 hp).2.2 y hy x List.mem_cons_self
      have hpB:∀ y∈B,x.1<y.1:=fun y hy=>(List.pairwise_cons.1 (List.pairwise_append.1 hp).2.1).1 y hy
      have hw2:IC P ops Q (Q .normal) (A.map (·.2)++o::(B.map (·.2)++l)) a w:=by
       rw [List.map_append,List.map_cons,hxo,List.append_assoc] at hw
       exact hw
      refine U0 ?_ (aft hQ hO _ _ a w (fun f hf=>?_) hw2)
      · intro a' w' h'
        refine ih (A++B) l k _ a' w' hk hkz hl (by simpa using hsz) (fun y hy=>hF y ?_) ?_ ?_ (atj x.1 o ho hi) ?_ (by rw [List.map_append,List.append_assoc];exact h')
        · rcases List.mem_append.1 hy with h|h
          · exact List.mem_append_left _ h
          · exact List.mem_append_right _ (List.mem_cons_of_mem _ h)
        · rw [List.pairwise_append] at hp ⊢
          exact ⟨hp.1,(List.pairwise_cons.1 hp.2.1).2,fun y hy z hz=>hp.2.2 y hy z (List.mem_cons_of_mem _ hz)⟩
        · intro j hj
          rw [hset x.1 (by omega)]
          split
          · next e=>
            subst e
            refine ⟨fun _=>⟨by have:=hS _ hx2;omega,fun y hy=>?_⟩,fun _=>rfl⟩
            rcases List.mem_append.1 hy with h|h
            · have:=hpA y h;omega
            · have:=hpB y h;omega
          · next e=>
            rw [hL j hj]
            refine and_congr_right fun _=>⟨fun h y hy=>?_,fun h y hy=>?_⟩
            · rcases List.mem_append.1 hy with h'|h'
              · exact h y (List.mem_append_left _ h')
              · exact h y (List.mem_append_right _ (List.mem_cons_of_mem _ h'))
            · rcases List.mem_append.1 hy with h'|h'
              · exact h y (List.mem_append_left _ h')
              · rcases List.mem_cons.1 h' with rfl|h'
                · exact fun e'=>e e'.symm
                · exact h y (List.mem_append_right _ h')
        · simp only [List.length_append,List.length_cons] at hf ⊢;omega
      · obtain ⟨y,hy,rfl⟩:=List.mem_map.1 hf
        obtain ⟨hy1,hy2⟩:=hF y (List.mem_append_left _ hy)
        obtain ⟨hys,_⟩:=Array.getElem?_eq_some_iff.1 hy1
        rcases hfl x.1 o y.1 y.2 ho hy1 (hpA y hy) (.inr ⟨hx2,hy2⟩) with hb|hb
        · have:=((hL y.1 hys).1 (hsub y.1 hb)).2 y (List.mem_append_left _ hy) rfl
          exact this.elim
        · exact hb.2
    · have hge:k≤i:=by
       rcases Nat.lt_or_ge i k with h|h
       · have:=(hL i his).2 ⟨h,fun x hx e=>hFi ⟨x,hx,e⟩⟩
         rw [hun] at this;cases this
       · exact h
      have hik:i=k:=by
       rcases Nat.lt_or_ge k i with h|h
       · exfalso
         have hok:∃ f,ops[k]? =some f:=⟨ops[k]'(by omega),by simp⟩
         obtain ⟨f,hof⟩:=hok
         rcases hfl i o k f ho hof h (.inl (by omega)) with hb|hb
         · have:=((hL k (by omega)).1 (hsub k hb)).1;omega
         · have:=hS _ hb.1;omega
       · omega
      subst hik
      cases l with
      |nil=>have:=hl 0;rw [Nat.add_zero,ho] at this;cases this
      |cons o' l=>
       have ho':ops[i]? =some o':=by simpa using (hl 0).symm
       rw [ho] at ho';cases ho'
       refine U0 ?_ (aft hQ hO _ _ a w (fun f hf=>?_) hw)
       · intro a' w' h'
         refine ih F l (i+1) _ a' w' (by omega) (by omega) (fun j=>by have:=hl (j+1);simpa [Nat.add_assoc,Nat.add_comm 1 j] using this) (by simpa using hsz) hF hp ?_ (atj i o ho hi) (by omega) h'
         intro j hj
         rw [hset i (by omega)]
         split
         · next e=>subst e;exact ⟨fun _=>⟨by omega,fun x hx e=>hFi ⟨x,hx,e⟩⟩,fun _=>rfl⟩
         · next e=>rw [hL j hj];exact and_congr_left fun _=>by omega
       · obtain ⟨y,hy,rfl⟩:=List.mem_map.1 hf
         obtain ⟨hy1,hy2⟩:=hF y hy
         obtain ⟨hys,_⟩:=Array.getElem?_eq_some_iff.1 hy1
         have:=hS _ hy2
         rcases hfl i o y.1 y.2 ho hy1 (by omega) (.inl hk) with hb|hb
         · exact (((hL y.1 hys).1 (hsub y.1 hb)).2 y hy rfl).elim
         · exact hb.2
end Go.Fw
namespace Go.Fw
open Go
variable {P:Program} {w0:World} {M:Nat→Prop} {T:Ext} {γ γ':Nat→Value} {st:St} {a:Act} {w w':World} {Θ:gK} {Γ:aB}
def apo:Op→Bool
 | .store _ _ _=>false
 | .call {callee:= .builtin .append, .. }| .call {callee:= .builtin .copy, .. }| .call {callee:= .builtin .clear, .. }=>false
 |_=>true
def asb (m:List Nat) (o:Oper):Bool:=match o.op,o.guard with
 | .call {callee:= .builtin .append,args, .. },none=>match args.toList with
   | .tmp t::_=>bf m t
   |_=>false
 |_,_=>false
def madeBy (m:List Nat) (o:Oper):List Nat:=match o.op,o.dst with
 | .buildSlice _ _ _,some d=>d::m
 | .call {callee:= .builtin .append, .. },some d=>d::m
 |_,_=>m
def ZW:List Nat→List Oper→Nat
 |_,[]=>0
 |m,o::r=>match apo o.op||asb m o with|true=>ZW (madeBy m o) r+1|false=>0
def ZX:List Nat→List Oper→Nat
 |_,[]=>0
 |m,o::r=>match apo o.op||(asb m o||CP o.op) with|true=>ZX (madeBy m o) r+1|false=>0
def aq0 (m:List Nat) (o:Oper):List Nat:=match o.op,o.dst with
 | .call {callee:= .value (.func _), .. },some d=>d::m
 |_,_=>madeBy m o
def ah4:List Nat→List Oper→Nat
 |_,[]=>0
 |m,o::r=>match apo o.op||(asb m o||CP o.op) with|true=>ah4 (aq0 m o) r+1|false=>0
def ZY:Nat→List Oper→List (Nat×Nat)
 |_,[]=>[]
 |i,o::r=>match o.op with
  | .call {callee:= .builtin .append,args, .. }=>match args.toList with
    | .tmp t::_=>(i,t*64+1)::ZY (i+1) r
    |_=>ZY (i+1) r
  |_=>ZY (i+1) r
def atl (R:Reg):Bool:=R.A.all fun x=>match idxOf R.D (x.2 / 64) 0 with
 |some j=>(R.ms.getD x.1 0).testBit j
 |none=>false
theorem apq {e q:Nat}:∀ (A:List (Nat×Nat)),JC A e q=true→(e,q)∈A
 |[],h=>by cases h
 |(e',q')::r,h=>by
  rw [JC] at h
  split at h
  · next hb=>
    rw [Bool.and_eq_true] at hb
    rw [Nat.eq_of_beq_eq_true hb.1,Nat.eq_of_beq_eq_true hb.2]
    exact List.mem_cons_self
  · exact List.mem_cons_of_mem _ (apq r h)
theorem aqo {R:Reg} (h:atl R=true) (e q:Nat) (hm:JC R.A e q=true):∃ j,idxOf R.D (q / 64) 0=some j∧(R.ms.getD e 0).testBit j=true:=by
 have:=List.all_eq_true.1 h _ (apq _ hm)
 split at this
 · next j hj=>exact ⟨j,hj,this⟩
 · cases this
def KC:Nat→List Nat→Bool
 |_,[]=>true
 |i,m::r=>Nat.beq (m+1) (2 ^ i)&&KC (i+1) r
def atm (t0:Nat) (ms:List Nat):List Nat:=(List.range t0).filter fun j=>!((ms.drop t0).all fun m=>m.testBit j)
def ah5 (ops:List Oper) (j i:Nat):Bool:=match ops[j]?,ops[i]? with
 |some f,some o=>passes f o
 |_,_=>false
def lateRow (ops:List Oper) (S:List Nat) (m i:Nat):Bool:=(List.range i).all fun j=>m.testBit j||(bf S j&&ah5 ops j i)
def apr (ops:List Oper) (t0:Nat) (ms:List Nat) (S:List Nat):Bool:=
 (List.range ops.length).all fun i=>match Nat.ble t0 i with
   |true=>Nat.blt (ms.getD i 0) (2 ^ i)&&lateRow ops S (ms.getD i 0) i
   |false=>match bf S i with
    |true=>S.all fun j=>Nat.ble i j||((ms.getD i 0).testBit j||ah5 ops j i)
    |false=>true
def Td (ops:List Oper) (t0:Nat) (ms:List Nat):Bool:=match KC t0 (ms.drop t0) with
 |true=>true
 |false=>apr ops t0 ms (atm t0 ms)
def front (l:List Oper):Nat:=match Td l (ZW [] l) (masks l []) with
 |true=>ZW [] l
 |false=>match Td l (ZX [] l) (masks l []) with|true=>ZX [] l|false=>ah4 [] l
def aps (l:List Oper):Bool:=l.all fun o=>match o.guard with
 |some (g,_)=>match l[g]? with
  |some og=>og.dst.isSome
  |none=>false
 |none=>true
def aq1 (n:Nat) (l:List Oper):Bool:=l.all fun o=>match o.dst with|some d=>Nat.blt d n|none=>true
def ah6 (own:Nat→Bool):List Oper→List Nat
 |[]=>[]
 |o::r=>match aoX o.op,o.dst with
  |true,some d=>match own d with|true=>ah6 own r|false=>d::ah6 own r
  |_,_=>ah6 own r
def alg (own:Nat→Bool) (l:List Oper) (s:St):St:=
 match ah6 own l with
 |[]=>s
 |z=>s.freeze fun o=>bf z (o / 64)&&!(Nat.beq (o%64) 0)
def acd (d:Nat):List (Nat×Operand)→Bool
 |[]=>false
 |(_, .tmp t)::r=>Nat.beq t d||acd d r
 |_::r=>acd d r
def awu (l:List Oper) (d:Nat):Bool:=l.any fun b=>match b.op,b.dst with
 | .build _ ps,some e=>acd d ps.toList&&l.any fun c=>match c.op with| .buildSlice _ _ qs=>acd e qs.toList|_=>false
 |_,_=>false
def U1 (l0:List Oper):List Oper→List Nat
 |[]=>[]
 |o::r=>match ab9 o.op,o.dst with
  |true,some d=>match awu l0 d with|true=>d::U1 l0 r|false=>U1 l0 r
  |_,_=>U1 l0 r
def avo (own:Nat→Bool) (l:List Oper):List Nat:=(ah6 own l++U1 l l).filter fun d=>!((ZY 0 l).any fun x=>Nat.beq x.2 (d*64+1))
def vU (n:Nat) (own:Nat→Bool) (Γ:aB) (U:List Nat) (ops:List Oper):Reg:=⟨dstsOf n 0 (ops.take (front ops)),U,masks ops [],SS Γ 0 (ops.take (front ops)),ZY 0 (ops.take (front ops)),n,avo own (ops.take (front ops))⟩
def PN (Θ:gK) (Γ:aB) (own:Nat→Bool) (U:List Nat) (ops:List Oper) (K:St→Prop) (st:St):Prop:=
 match nodup (vU st.n own Γ U ops).D&&(aq1 st.n (ops.take (front ops))&&(Td ops (front ops) (vU st.n own Γ U ops).ms&&((vU st.n own Γ U ops).E.all (Gj (vU st.n own Γ U ops).ms (vU st.n own Γ U ops).E)&&(atl (vU st.n own Γ U ops)&&aps ops)))) with
 |true=>zn Θ Γ (vU st.n own Γ U ops) (dw (vU st.n own Γ U ops).D st) (fun path=>
   runs Θ Γ own ops K (ops.drop (front ops)) (alg own (ops.take (front ops)) (after (dw (vU st.n own Γ U ops).D st) path fun _=>true))) 0 (ops.take (front ops)) []
 |false=>False
theorem am4:∀ (m:List Nat) (l:List Oper),ZW m l≤l.length
 |_,[]=>Nat.le_refl _
 |m,o::r=>by
  rw [ZW]
  split
  · have:=am4 (madeBy m o) r
    rw [List.length_cons];omega
  · exact Nat.zero_le _
theorem am5:∀ (m:List Nat) (l:List Oper),ZX m l≤l.length
 |_,[]=>Nat.le_refl _
 |m,o::r=>by
  rw [ZX]
  split
  · have:=am5 (madeBy m o) r
    rw [List.length_cons];omega
  · exact Nat.zero_le _
theorem am6:∀ (m:List Nat) (l:List Oper),ah4 m l≤l.length
 |_,[]=>Nat.le_refl _
 |m,o::r=>by
  rw [ah4]
  split
  · have:=am6 (aq0 m o) r
    rw [List.length_cons];omega
  · exact Nat.zero_le _
theorem auo (l:List Oper):front l≤l.length:=by
 unfold front
 split
 · exact am4 [] l
 · split
   · exact am5 [] l
   · exact am6 [] l
theorem anT {l:List Oper} (h:aps l=true) {i:Nat} {o:Oper} {g:Nat} {b:Bool} (ho:l[i]? =some o) (hg:o.guard=some (g,b)):∃ og d,l[g]? =some og∧og.dst=some d:=by
 have:=List.all_eq_true.1 h o (List.mem_of_getElem? ho)
 rw [hg] at this
 simp only at this
 split at this
 · next og hog=>
   obtain ⟨d,hd⟩:=Option.isSome_iff_exists.1 this
   exact ⟨og,d,hog,hd⟩
 · cases this
theorem apt {n:Nat} {l:List Oper} (h:aq1 n l=true) {i:Nat} {o:Oper} {d:Nat} (ho:l[i]? =some o) (hd:o.dst=some d):d<n:=by
 have:=List.all_eq_true.1 h o (List.mem_of_getElem? ho)
 rw [hd] at this
 simpa [Nat.blt_eq] using this
theorem aen:∀ {l:List Nat} {k:Nat},KC k l=true→∀ i m,l[i]? =some m→m+1=2 ^ (k+i)
 |[],_,_,i,m,hm=>by simp at hm
 |x::r,k,h,0,m,hm=>by
  rw [KC,Bool.and_eq_true] at h
  simp at hm;subst hm
  exact Nat.eq_of_beq_eq_true h.1
 |x::r,k,h,i+1,m,hm=>by
  rw [KC,Bool.and_eq_true] at h
  have:=aen h.2 i m (by simpa using hm)
  rw [this];congr 1;omega
theorem Z4:∀ (l:List Oper) (acc:List Nat),(masks l acc).length=acc.length+l.length
 |[],acc=>by simp [masks]
 |o::r,acc=>by rw [masks,Z4 r];simp;omega
theorem ah7:∀ {l:List Nat},nodup l=true→∀ (i j:Nat) (x:Nat),l[i]? =some x→l[j]? =some x→i=j
 |[],_,i,j,x,hi,_=>by simp at hi
 |y::r,h,i,j,x,hi,hj=>by
  rw [nodup,Bool.and_eq_true] at h
  have hno:y ∉ r:=fun hm=>by have:=yP.2 hm;rw [this] at h;simp at h
  match i,j with
  |0,0=>rfl
  |0,j+1=>simp at hi hj;exact (hno (hi▸List.mem_of_getElem? hj)).elim
  |i+1,0=>simp at hi hj;exact (hno (hj▸List.mem_of_getElem? hi)).elim
  |i+1,j+1=>simp at hi hj;rw [ah7 h.2 i j x hi hj]
theorem MR {n:Nat}:∀ {l:List Oper} {k:Nat},(∀ (i:Nat) (o:Oper),l[i]? =some o→∃ d,yC n (k+i) o=some d)→∀ (i:Nat) (o:Oper) (d:Nat),l[i]? =some o→yC n (k+i) o=some d→(dstsOf n k l)[i]? =some d
 |[],_,_,i,o,d,hi,_=>by simp at hi
 |x::r,k,h,i,o,d,hi,hd=>by
  obtain ⟨e,he⟩:=h 0 x rfl
  rw [Nat.add_zero] at he
  rw [dstsOf,he]
  match i with
  |0=>simp at hi;subst hi;rw [Nat.add_zero,he] at hd;cases hd;rfl
  |i+1=>simp;exact MR (k:=k+1) (fun j o' hj=>by rw [show k+1+j=k+(j+1) by omega];exact h (j+1) o' (by simpa using hj)) i o d (by simpa using hi) (by rw [show k+1+i=k+(i+1) by omega];exact hd)
theorem apu {ops:List Oper} {S:List Nat} {m i:Nat} (h:lateRow ops S m i=true) {j:Nat} (hj:j<i) {o f:Oper} (ho:ops[i]? =some o) (hf:ops[j]? =some f):m.testBit j=true∨(bf S j=true∧passes f o=true):=by
 have:=List.all_eq_true.1 h j (List.mem_range.2 hj)
 rw [Bool.or_eq_true,Bool.and_eq_true,ah5,ho,hf] at this
 exact this
theorem WX {ops:List Oper} {t0:Nat} {ms S:List Nat} (h:apr ops t0 ms S=true) {i:Nat} {o:Oper} (ho:ops[i]? =some o):
 (t0≤i→ms.getD i 0<2 ^ i)∧∀ {j:Nat} {f:Oper},ops[j]? =some f→j<i→t0≤i∨(bf S i=true∧bf S j=true)→(ms.getD i 0).testBit j=true∨(bf S j=true∧passes f o=true):=by
 obtain ⟨hi,_⟩:=List.getElem?_eq_some_iff.1 ho
 have:=List.all_eq_true.1 h i (List.mem_range.2 hi)
 split at this
 · next hb=>
   rw [Bool.and_eq_true] at this
   exact ⟨fun _=>by simpa [Nat.blt_eq] using this.1,fun hf hj _=>apu this.2 hj ho hf⟩
 · next hb=>
   have hlt:¬ t0≤i:=fun h'=>by rw [Nat.ble_eq_true_of_le h'] at hb;cases hb
   refine ⟨fun h'=>(hlt h').elim,fun {j f} hf hj h'=>?_⟩
   obtain ⟨h1,h2⟩:=h'.resolve_left hlt
   rw [h1] at this
   have:=List.all_eq_true.1 this j (yP.1 h2)
   rw [Bool.or_eq_true,Bool.or_eq_true,ah5,ho,hf] at this
   rcases this with h3|h3|h3
   · have:=Nat.le_of_ble_eq_true h3;omega
   · exact .inl h3
   · exact .inr ⟨h2,h3⟩
theorem ah8 (L:Nat→Bool):∀ (n:Nat),((List.range n).filter fun i=>!(L i)).length=Hq L n
 |0=>rfl
 |n+1=>by
  rw [List.range_succ,List.filter_append,List.length_append,ah8 L n,Hq]
  cases h:L n
  · simp [h,Nat.add_comm]
  · simp [h]
theorem apv (L:Nat→Bool) {t0:Nat} (h:∀ i,t0≤i→L i=false):∀ (n:Nat),t0≤n→Hq L n=Hq L t0+(n-t0)
 |0,hn=>by
  have:t0=0:=by omega
  subst this;rfl
 |n+1,hn=>by
  rcases Nat.lt_or_ge n t0 with h'|h'
  · have:t0=n+1:=by omega
    subst this;simp
  · rw [Hq,h n h',apv L h n h']
    simp only;omega
structure ace (Θ:gK) (Γ:aB) (w0:World) (M:Nat→Prop) (T:Ext) (st:St) (R:Reg) (ops:Array Oper) (t0:Nat) (listed:Array Bool) (path:List fA) (γ:Nat→Value) (a:Act) (w:World):Prop where
 way:Way R ops t0 path
 size:listed.size=ops.size
 tail:∀ i,t0≤i→listed.getD i false=false
 shut:∀ i j,listed.getD i false=true→((masks ops.toList []).getD i 0).testBit j=true→listed.getD j false=true
 ok:∀ j o x,ops[j]? =some o→path[j]? =some x→listed.getD j false=true→xI Θ Γ R (dw R.D st) path j o x
 rel:Rel w0 M T γ (after (dw R.D st) path fun i=>listed.getD i false) a w
theorem atn {G:kQ} (hE:xG P G Θ Γ w0 M) {ops:Array Oper} {Q:Exit→Act→World→Prop} (hQ:∀ c a w,¬ Q (.panic c) a w) (hO:¬ LetsOut Q) {R:Reg} {t0:Nat} {K:List fA→Prop} (ht0:t0≤ops.size) (hms:R.ms=masks ops.toList [])
 (hRn:R.n=st.n) (hDn:∀ i o d,ops[i]? =some o→i<t0→o.dst=some d→d<st.n) (hgd:∀ i o g b,ops[i]? =some o→i<t0→o.guard=some (g,b)→∃ og d,ops[g]? =some og∧og.dst=some d) (hcmp:∀ e∈R.E,Gj R.ms R.E e=true) (hEi:∀ j o',ops[j]? =some o'→j<t0→BO Γ o'.op=true→j∈R.E)
 (hA:∀ e q,JC R.A e q=true→∃ j,idxOf R.D (q / 64) 0=some j∧(R.ms.getD e 0).testBit j=true)
 (UZ:∀ ext:List fA,ext.length≤t0→afr Θ Γ R (dw R.D st) (ops.toList.take t0) ext→(ext.length=t0→K ext)∧∀ o,(ops.toList.take t0)[ext.length]? =some o→Enabled Θ Γ R (dw R.D st) ext ext.length o)
 {S:Nat→Prop} (hfl:∀ i o j f,ops[i]? =some o→ops[j]? =some f→j<i→t0≤i∨(S i∧S j)→((masks ops.toList []).getD i 0).testBit j=true∨(S j∧passes f o=true)) (hS:∀ j,S j→j<t0)
 (hlt:∀ i o,ops[i]? =some o→(masks ops.toList []).getD i 0<2 ^ i)
 (hend:∀ path γ' a' w',K path→path.length=t0→Rel w0 M T γ' (after (dw R.D st) path fun _=>true) a' w'→wpList P ops Q (ops.toList.drop t0) a' w'):
 ∀ (fuel:Nat) (listed:Array Bool) (path:List fA) (γ:Nat→Value) (a:Act) (w:World),ace Θ Γ w0 M T st R ops t0 listed path γ a w→
   Hq (fun i=>listed.getD i false) ops.size≤fuel→wpAny P .any ops Q fuel listed a w:=by
 have UI:(ops.toList.take t0).length=t0:=by simp;omega
 have hget:∀ j o,(ops.toList.take t0)[j]? =some o↔j<t0∧ops[j]? =some o:=fun j o=>by
  rcases Nat.lt_or_ge j t0 with h|h
  · rw [List.getElem?_take_of_lt h];simp [h]
  · rw [List.getElem?_eq_none (by rw [UI];exact h)]
    constructor
    · intro h';cases h'
    · rintro ⟨h',_⟩;omega
 have fin:∀ (listed:Array Bool) (path:List fA) (γ:Nat→Value) (a:Act) (w:World),ace Θ Γ w0 M T st R ops t0 listed path γ a w→
  (∀ i,i<t0→listed.getD i false=true)→wpList P ops Q (ops.toList.drop t0) a w:=by
  intro listed path γ a w I hdone
  have hR:=I.rel
  have hK:K path:=by
   refine (UZ path (by rw [I.way.len];exact Nat.le_refl _) fun i o x hi hx=>?_).1 I.way.len
   obtain ⟨h1,h2⟩:=(hget i o).1 hi
   exact I.ok i o x h2 hx (hdone i h1)
  have hsame:after (dw R.D st) path (fun i=>listed.getD i false)=after (dw R.D st) path fun _=>true:=by
   unfold after
   have:∀ (l:List fA) (j:Nat),j+l.length≤t0→pick l j (fun i=>listed.getD i false)=pick l j fun _=>true:=by
    intro l
    induction l with
    |nil=>intros;rfl
    |cons y l ih=>
     intro j hj
     rw [pick,pick]
     simp only [List.length_cons] at hj
     simp only [hdone j (by omega)]
     rw [ih (j+1) (by omega)]
   rw [this path 0 (by rw [I.way.len];omega)]
  rw [hsame] at hR
  exact hend path γ a w hK I.way.len hR
 have step:∀ (listed:Array Bool) (path:List fA) (γ:Nat→Value) (a:Act) (w:World),ace Θ Γ w0 M T st R ops t0 listed path γ a w→∀ (i:Nat) (o:Oper),ops[i]? =some o→i<t0→listed.getD i false=false→
  (∀ j,((masks ops.toList []).getD i 0).testBit j=true→listed.getD j false=true)→∀ (K':Act→World→Prop),
  (∀ path' γ' a' w',ace Θ Γ w0 M T st R ops t0 (listed.setIfInBounds i true) path' γ' a' w'→K' a' w')→wpOp P ops Q i K' a w:=by
  intro listed path γ a w I i o ho hit hil hsub K' hK'
  obtain ⟨W,hsz,htl,hcl,hok,hR⟩:=I
  have hen:Enabled Θ Γ R (dw R.D st) path i o:=by
   obtain ⟨ext,g1,g2,g3⟩:=fill hE.toEnvB (R:=R) (base:=dw R.D st) (front:=ops.toList.take t0) (path:=path) (L:=fun i=>listed.getD i false)
    (fun ext hc o' ho'=>(UZ ext (by
      obtain ⟨hlt',_⟩:=List.getElem?_eq_some_iff.1 ho'
      rw [UI] at hlt';omega) hc).2 o' ho')
    (fun j o' x ho' hx hL=>hok j o' x ((hget j o').1 ho').2 hx hL) (by rw [W.len,UI]) (fun j k hL hk=>hcl j k hL (by rw [← hms];exact hk)) i (by rw [UI];omega)
   have:=(UZ ext (by omega) g2).2 o ((hget _ o).2 ⟨by omega,by rw [g1];exact ho⟩)
   rw [g1] at this
   refine this.agree fun j hj=>?_
   rw [hms] at hj
   have hji:j<i:=by
    rcases Nat.lt_or_ge j i with h|h
    · exact h
    · rw [sK (hlt i o ho) h] at hj;cases hj
   exact g3 j hji (hsub j hj)
  have hset:∀ j,(listed.setIfInBounds i true).getD j false=(if j=i then true else listed.getD j false):=by
   intro j
   split
   · next e=>subst e;simp [Array.getD,show j<listed.size by omega]
   · next e=>exact getD_set_ne false (Ne.symm e)
  refine aul hE (L:=fun i=>listed.getD i false) (L':=fun j=>(listed.setIfInBounds i true).getD j false) W ht0 hit hRn hDn hgd hcmp hEi hA ho hen hok (fun j k hL hk=>hcl j k hL (by rw [← hms];exact hk)) (fun j hj=>hsub j (by rw [← hms];exact hj)) hil
   (by simp only [hset,if_true]) (fun j hj=>by simp only [hset,if_neg hj]) hR ?_
  intro x γ' a' w' ⟨y,hy,hxy⟩ hx hR'
  refine hK' (path.set i x) γ' a' w' ⟨W.set hy hxy,by simpa using hsz,?_,?_,?_,hR'⟩
  · intro j hj
    rw [hset,if_neg (by omega)];exact htl j hj
  · intro j k hj hk
    rw [hset] at hj ⊢
    split
    · rfl
    · split at hj
      · next e=>subst e;exact hsub k hk
      · exact hcl j k hj hk
  · intro j o' z ho' hz hL
    obtain ⟨axl,_⟩:=List.getElem?_eq_some_iff.1 hy
    by_cases e:j=i
    · subst e
      rw [List.getElem?_set_self axl] at hz
      cases hz
      rw [ho] at ho';cases ho'
      exact hx
    · rw [List.getElem?_set_ne (Ne.symm e)] at hz
      rw [hset,if_neg e] at hL
      refine (hok j o' z ho' hz hL).agree fun k hk=>?_
      have hLk:=hcl j k hL (by rw [← hms];exact hk)
      have hki:i≠k:=fun e=>by subst e;rw [hil] at hLk;cases hLk
      rw [List.getElem?_set_ne hki]
 have pend:∀ (F:List (Nat×Oper)) (listed:Array Bool) (path:List fA) (γ:Nat→Value) (a:Act) (w:World),ace Θ Γ w0 M T st R ops t0 listed path γ a w→
  (∀ x∈F,ops[x.1]? =some x.2∧x.1<t0)→F.Pairwise (fun x y=>x.1<y.1)→(∀ i,i<t0→(listed.getD i false=true↔∀ x∈F,x.1≠i))→
  IC P ops Q (Q .normal) (F.map (·.2)++ops.toList.drop t0) a w:=by
  intro F
  induction F with
  |nil=>
   intro listed path γ a w I _ _ hL
   rw [List.map_nil,List.nil_append,aem]
   exact fin listed path γ a w I fun i hi=>(hL i hi).2 fun x hx=>by cases hx
  |cons x F ih=>
   intro listed path γ a w I hF hp hL
   obtain ⟨hx1,hx2⟩:=hF x List.mem_cons_self
   have hpx:=(List.pairwise_cons.1 hp).1
   have hun:listed.getD x.1 false=false:=by
    cases hb:listed.getD x.1 false with
    |false=>rfl
    |true=>exact ((hL x.1 hx2).1 hb x List.mem_cons_self rfl).elim
   refine (wpOp_step hx1).1 (step listed path γ a w I x.1 x.2 hx1 hx2 hun (fun j hj=>?_) _ fun path' γ' a' w' I'=>?_)
   · have hjx:j<x.1:=by
      rcases Nat.lt_or_ge j x.1 with h|h
      · exact h
      · rw [sK (hlt x.1 x.2 hx1) h] at hj;cases hj
     refine (hL j (by omega)).2 fun y hy=>?_
     rcases List.mem_cons.1 hy with rfl|hy
     · omega
     · have:=hpx y hy;omega
   · refine ih _ path' γ' a' w' I' (fun y hy=>hF y (List.mem_cons_of_mem _ hy)) (List.pairwise_cons.1 hp).2 fun i hi=>?_
     have hxs:x.1<listed.size:=by rw [I.size];exact (Array.getElem?_eq_some_iff.1 hx1).1
     by_cases e:i=x.1
     · subst e
       refine ⟨fun _ y hy=>by have:=hpx y hy;omega,fun _=>by simp [Array.getD,hxs]⟩
     · rw [getD_set_ne false (Ne.symm e),hL i hi]
       refine ⟨fun h y hy=>h y (List.mem_cons_of_mem _ hy),fun h y hy=>?_⟩
       rcases List.mem_cons.1 hy with rfl|hy
       · exact fun e'=>e e'.symm
       · exact h y hy
 have late:∀ (fuel:Nat) (listed:Array Bool) (path:List fA) (γ:Nat→Value) (a:Act) (w:World),ace Θ Γ w0 M T st R ops t0 listed path γ a w→Hq (fun i=>listed.getD i false) ops.size≤fuel→
  (∀ i,i<t0→¬ S i→listed.getD i false=true)→wpAny P .any ops Q fuel listed a w:=by
  intro fuel listed path γ a w I hf hd
  have hcount:=apv (fun i=>listed.getD i false) I.tail ops.size ht0
  have hlen:=ah8 (fun i=>listed.getD i false) t0
  have hmem:∀ x,x∈((List.range t0).filter fun i=>!(listed.getD i false)).map (fun i=>(i,(ops[i]?).getD default))↔∃ i,i<t0∧listed.getD i false=false∧(i,(ops[i]?).getD default)=x:=by
   intro x
   simp only [List.mem_map,List.mem_filter,List.mem_range,Bool.not_eq_true',and_assoc]
  have av1:∀ i,i<t0→ops[i]? =some ((ops[i]?).getD default):=fun i hi=>by
   have:ops[i]? =some (ops[i]'(by omega)):=by simp
   rw [this];rfl
  have auY:(((List.range t0).filter fun i=>!(listed.getD i false)).map (fun i=>(i,(ops[i]?).getD default))).Pairwise (fun x y=>x.1<y.1):=by
   rw [List.pairwise_map]
   exact (List.pairwise_lt_range (n:=t0)).filter _
  refine aum hQ hO hfl hS hlt fuel (((List.range t0).filter fun i=>!(listed.getD i false)).map (fun i=>(i,(ops[i]?).getD default))) (ops.toList.drop t0) t0 listed a w (Nat.le_refl _) ht0 (fun j=>by simp) I.size ?_ auY ?_ I.shut ?_ ?_
  · intro x hx
    obtain ⟨i,h1,h2,rfl⟩:=(hmem x).1 hx
    refine ⟨av1 i h1,Classical.byContradiction fun hno=>?_⟩
    have:=hd i h1 hno
    rw [h2] at this;cases this
  · intro i hi
    refine ⟨fun h=>⟨?_,fun x hx e=>?_⟩,fun ⟨h1,h2⟩=>?_⟩
    · rcases Nat.lt_or_ge i t0 with h'|h'
      · exact h'
      · rw [I.tail i h'] at h;cases h
    · obtain ⟨j,_,h2,rfl⟩:=(hmem x).1 hx
      subst e
      rw [h2] at h;cases h
    · cases hb:listed.getD i false with
      |true=>rfl
      |false=>exact (h2 _ ((hmem _).2 ⟨i,h1,hb,rfl⟩) rfl).elim
  · rw [List.length_map,hlen];omega
  · refine pend _ listed path γ a w I (fun x hx=>?_) auY fun i hi=>⟨fun h x hx e=>?_,fun h=>?_⟩
    · obtain ⟨i,h1,_,rfl⟩:=(hmem x).1 hx
      exact ⟨av1 i h1,h1⟩
    · obtain ⟨j,_,h2,rfl⟩:=(hmem x).1 hx
      subst e
      rw [h2] at h;cases h
    · cases hb:listed.getD i false with
      |true=>rfl
      |false=>exact (h _ ((hmem _).2 ⟨i,hi,hb,rfl⟩) rfl).elim
 intro fuel
 induction fuel with
 |zero=>
  intro listed path γ a w I hf
  have hall:∀ i,i<ops.size→listed.getD i false=true:=apk (L:=fun i=>listed.getD i false) ops.size (by omega)
  exact late 0 listed path γ a w I hf fun i hi _=>hall i (by omega)
 |succ fuel ih=>
  intro listed path γ a w I hf
  by_cases hdone:∀ i,i<t0→¬ S i→listed.getD i false=true
  · exact late (fuel+1) listed path γ a w I hf hdone
  · obtain ⟨W,hsz,htl,hcl,hok,hR⟩:=id I
    have hex:∃ i,i<t0∧¬ S i∧listed.getD i false=false:=by
     refine Classical.byContradiction fun hno=>hdone fun i hi hn=>?_
     cases hl:listed.getD i false with
     |true=>rfl
     |false=>exact (hno ⟨i,hi,hn,hl⟩).elim
    obtain ⟨i1,hi1,hS1,hl1⟩:=hex
    obtain ⟨i0,hi0,hl0,hmin⟩:=least (p:=fun i=>listed.getD i false=false) t0 ⟨i1,hi1,hl1⟩
    have ato:i0∈Region.ready .any ops listed:=by
     have hisz:i0<ops.size:=by omega
     refine EX.2 ⟨ops[i0],by simp [hisz],by rw [Hr (by omega)];exact hl0,fun e he hb=>?_⟩
     have hoi:ops.toList[i0]? =some ops[i0]:=by simp [hisz]
     have ah3:=amY hoi he hb
     have aun:e.on<i0:=by
      rcases Nat.lt_or_ge e.on i0 with h|h
      · exact h
      · rw [sK (hlt i0 ops[i0] (by simp [hisz])) h] at ah3;cases ah3
     cases hl:listed.getD e.on false with
     |true=>rfl
     |false=>exact (hmin e.on aun hl).elim
    refine ⟨fun h=>(by rw [h] at ato;cases ato),fun i hi=>?_⟩
    obtain ⟨o,ho,hn,hall⟩:=EX.1 hi
    obtain ⟨hisz,_⟩:=Array.getElem?_eq_some_iff.1 ho
    have hil:listed.getD i false=false:=by rw [← Hr (by omega)];exact hn
    have hsub:=ZV hcl ho hi
    have hit:i<t0:=by
     rcases Nat.lt_or_ge i t0 with h|h
     · exact h
     · have ho1:ops[i1]? =some (ops[i1]'(by omega)):=by simp
       rcases hfl i o i1 _ ho ho1 (by omega) (.inl h) with hb|hb
       · have:=hsub i1 hb;rw [hl1] at this;cases this
       · exact (hS1 hb.1).elim
    refine step listed path γ a w I i o ho hit hil hsub _ fun path' γ' a' w' I'=>ih _ path' γ' a' w' I' ?_
    have hset:∀ j,(listed.setIfInBounds i true).getD j false=(if j=i then true else listed.getD j false):=by
     intro j
     split
     · next e=>subst e;simp [Array.getD,show j<listed.size by omega]
     · next e=>exact getD_set_ne false (Ne.symm e)
    have:=aqY (L:=fun i=>listed.getD i false) (L':=fun j=>(listed.setIfInBounds i true).getD j false) (i:=i) hil (by simp only [hset,if_true]) (fun j hj=>by simp only [hset,if_neg hj]) ops.size hisz
    omega
theorem aeo {ops:Array Oper} {t0:Nat} (h:KC t0 ((masks ops.toList []).drop t0)=true) {i:Nat} {o:Oper} (ho:ops[i]? =some o) (hi:t0≤i):(masks ops.toList []).getD i 0+1=2 ^ i:=by
 obtain ⟨hisz,_⟩:=Array.getElem?_eq_some_iff.1 ho
 have hml:(masks ops.toList []).length=ops.size:=by rw [Z4];simp
 have hg:((masks ops.toList []).drop t0)[i-t0]? =some ((masks ops.toList []).getD i 0):=by
  rw [List.getElem?_drop,show t0+(i-t0)=i by omega,List.getD_eq_getElem?_getD,List.getElem?_eq_getElem (by omega)]
  rfl
 have:=aen h _ _ hg
 rw [this];congr 1;omega
theorem asV {G:kQ} (hE:xG P G Θ Γ w0 M) (hm:P.follows .mixedOrders=true) {own:Nat→Bool} {U:List Nat} {id:Nat} {ops:Array Oper} {K:St→Prop} {Q:Exit→Act→World→Prop} (h:Rel w0 M T γ st a w)
 (hr:PN Θ Γ own U ops.toList K st) (hn:∀ s γ' a' w',K s→Rel w0 M T γ' s a' w'→Q .normal a' w'):(Code.region id ops true).wp P Q a w:=by
 unfold PN at hr
 split at hr
 case h_2=>exact hr.elim
 next hb=>
 rw [Bool.and_eq_true,Bool.and_eq_true,Bool.and_eq_true,Bool.and_eq_true] at hb
 obtain ⟨hnd,hlt,htl,hcmp,aor⟩:=hb
 rw [Bool.and_eq_true] at aor
 obtain ⟨aor,avp⟩:=aor
 have ht0:front ops.toList≤ops.size:=by simpa using auo ops.toList
 have hfl:(ops.toList.take (front ops.toList)).length=front ops.toList:=by simp;omega
 have UZ:=fun (ext:List fA) (hle:ext.length≤front ops.toList) (hc:afr Θ Γ (vU st.n own Γ U ops.toList) (dw (vU st.n own Γ U ops.toList).D st) (ops.toList.take (front ops.toList)) ext)=>
  aef (ops.toList.take (front ops.toList)) [] [] ext rfl (by rw [hfl];exact hle) hr (by simpa using hc)
 simp only [List.nil_append,List.length_nil,Nat.zero_add,hfl] at UZ
 have hall:∃ ext:List fA,ext.length=front ops.toList∧afr Θ Γ (vU st.n own Γ U ops.toList) (dw (vU st.n own Γ U ops.toList).D st) (ops.toList.take (front ops.toList)) ext:=by
  obtain ⟨ext,g1,g2,_⟩:=fill hE.toEnvB (R:=vU st.n own Γ U ops.toList) (base:=dw (vU st.n own Γ U ops.toList).D st) (front:=ops.toList.take (front ops.toList)) (path:=List.replicate (front ops.toList) (skipped 0)) (L:=fun _=>false)
   (fun ext hc o' ho'=>(UZ ext (by
     obtain ⟨hlt',_⟩:=List.getElem?_eq_some_iff.1 ho'
     rw [hfl] at hlt';omega) hc).2 o' ho') (fun _ _ _ _ _ h=>by cases h) (by simp [hfl]) (fun _ _ h=>by cases h) (front ops.toList) (by rw [hfl];exact Nat.le_refl _)
  exact ⟨ext,g1,g2⟩
 obtain ⟨av2,hl0,hc0⟩:=hall
 have atp:∀ i,i<front ops.toList→∃ o d,ops[i]? =some o∧(ops.toList.take (front ops.toList))[i]? =some o∧yC st.n i o=some d∧(vU st.n own Γ U ops.toList).ms.getD i 0<2 ^ i:=by
  intro i hi
  have ho:ops[i]? =some (ops[i]'(by omega)):=by simp
  have ho2:(ops.toList.take (front ops.toList))[i]? =some (ops[i]'(by omega)):=by rw [List.getElem?_take_of_lt hi];simp
  have hx:av2[i]? =some (av2[i]'(by omega)):=by simp
  obtain ⟨h1,h2,_⟩:=hc0 i _ _ ho2 hx
  exact ⟨_,_,ho,ho2,h1,h2⟩
 have hdst:∀ (i:Nat) (o:Oper),(ops.toList.take (front ops.toList))[i]? =some o→∃ d,yC st.n (0+i) o=some d:=by
  intro i o ho
  rw [Nat.zero_add]
  obtain ⟨hi,_⟩:=List.getElem?_eq_some_iff.1 ho
  obtain ⟨o',d,_,h2,h3,_⟩:=atp i (by omega)
  rw [ho] at h2;cases h2
  exact ⟨d,h3⟩
 have hbound:∀ i o,ops[i]? =some o→front ops.toList≤i→(masks ops.toList []).getD i 0<2 ^ i:=by
  intro i o ho hi
  unfold Td at htl
  split at htl
  · next hb=>
    have:=aeo (show KC _ ((masks ops.toList []).drop _)=true from hb) ho hi
    omega
  · exact (WX htl (by simpa using ho)).1 hi
 have awv:∃ S:Nat→Prop,(∀ i o j f,ops[i]? =some o→ops[j]? =some f→j<i→front ops.toList≤i∨(S i∧S j)→((masks ops.toList []).getD i 0).testBit j=true∨(S j∧passes f o=true))∧∀ j,S j→j<front ops.toList:=by
  unfold Td at htl
  split at htl
  · next hb=>
    refine ⟨fun _=>False,fun i o j f ho _ hj hi=> .inl ?_,fun _ h=>h.elim⟩
    rcases hi with hi|hi
    · have h1:=aeo (show KC _ ((masks ops.toList []).drop _)=true from hb) ho hi
      have h2:(masks ops.toList []).getD i 0=2 ^ i-1:=by omega
      rw [h2,Nat.testBit_two_pow_sub_one]
      simpa using hj
    · exact hi.1.elim
  · refine ⟨fun j=>bf (atm (front ops.toList) (vU st.n own Γ U ops.toList).ms) j=true,fun i o j f ho hf hj hi=>?_,fun j hj=>?_⟩
    · exact (WX htl (by simpa using ho)).2 (by simpa using hf) hj hi
    · have:=yP.1 hj
      exact List.mem_range.1 (List.mem_filter.1 this).1
 obtain ⟨S,axm,hS⟩:=awv
 let ase:List fA:=(ops.toList.take (front ops.toList)).mapIdx fun i o=>skipped ((yC st.n i o).getD 0)
 have hp0:∀ (i:Nat) (x:fA),ase[i]? =some x→∃ o,(ops.toList.take (front ops.toList))[i]? =some o∧yC st.n (0+i) o=some x.d:=by
  intro i x hx
  have hx:((ops.toList.take (front ops.toList)).mapIdx fun i o=>skipped ((yC st.n i o).getD 0))[i]? =some x:=hx
  rw [List.getElem?_mapIdx] at hx
  cases ho:(ops.toList.take (front ops.toList))[i]? with
  |none=>rw [ho] at hx;cases hx
  |some o=>
   rw [ho] at hx
   obtain ⟨d,hd⟩:=hdst i o ho
   cases hx
   rw [Nat.zero_add] at hd ⊢
   exact ⟨o,rfl,by simp [skipped,hd]⟩
 have W0:Way (vU st.n own Γ U ops.toList) ops (front ops.toList) ase:=by
  refine ⟨by show (List.mapIdx _ _).length=_;rw [List.length_mapIdx,hfl],fun i o x ho hx=>?_,fun x hx=>?_,fun i j x y hx hy hxy=>?_,fun i x hx=>?_⟩
  · obtain ⟨o',h1,h2⟩:=hp0 i x hx
    obtain ⟨hi,_⟩:=List.getElem?_eq_some_iff.1 h1
    rw [List.getElem?_take_of_lt (by omega)] at h1
    have:ops[i]? =some o':=by simpa using h1
    rw [ho] at this;cases this
    rw [Nat.zero_add] at h2
    exact h2
  · obtain ⟨i,hi⟩:=List.getElem?_of_mem hx
    obtain ⟨o',h1,h2⟩:=hp0 i x hi
    exact yP.2 (ah1 _ 0 i h1 h2)
  · obtain ⟨o1,h1,h2⟩:=hp0 i x hx
    obtain ⟨o2,h3,h4⟩:=hp0 j y hy
    have g1:=MR hdst i o1 x.d h1 h2
    have g2:=MR hdst j o2 y.d h3 h4
    rw [← hxy] at g2
    exact ah7 hnd i j x.d g1 g2
  · obtain ⟨o1,h1,h2⟩:=hp0 i x hx
    have:=am2 _ 0 i x.d hnd (MR hdst i o1 x.d h1 h2)
    rw [Nat.zero_add] at this
    exact this
 refine Code.wp_mono (Q:=fun e a' w'=>match e with| .normal=>∃ s γ',K s∧Rel w0 M T γ' s a' w'|_=>False) (fun e a' w' he=>?_) ?_
 · cases e with
   |normal=>obtain ⟨s,γ',h1,h2⟩:=he;exact hn s γ' a' w' h1 h2
   |_=>exact he.elim
 refine wp_region_any hm ?_
 refine atn (w0:=w0) (M:=M) (T:=T) hE (fun _ _ _ h=>h) (fun ⟨_,_,h⟩=>h) (R:=vU st.n own Γ U ops.toList) (t0:=front ops.toList) ht0 rfl rfl ?_ (fun i o g b ho _ hg=>by
  obtain ⟨og,d,h1,h2⟩:=anT avp (i:=i) (by simpa using ho) hg
  exact ⟨og,d,by simpa using h1,h2⟩) (fun e he=>List.all_eq_true.1 hcmp e he) ?_ (aqo aor) UZ axm hS ?_ ?_ ops.size _ ase γ _ _
  ⟨W0,by simp,?_,?_,?_,?_⟩ ?_
 · intro i o d ho hi hd
   exact apt hlt (i:=i) (by rw [List.getElem?_take_of_lt hi];simpa using ho) hd
 · intro j o' ho' hj he
   have:=ah2 (Γ:=Γ) (ops.toList.take (front ops.toList)) 0 j o' (by rw [List.getElem?_take_of_lt hj];simpa using ho') he
   rw [Nat.zero_add] at this
   exact this
 · intro i o ho
   rcases Nat.lt_or_ge i (front ops.toList) with hi|hi
   · obtain ⟨_,_,_,_,_,h⟩:=atp i hi
     exact h
   · exact hbound i o ho hi
 · intro path γ' a' w' hK _ hR
   have aww:Rel w0 M T γ' (alg own (ops.toList.take (front ops.toList)) (after (dw (vU st.n own Γ U ops.toList).D st) path fun _=>true)) a' w':=by
    unfold alg
    split
    · exact hR
    · exact hR.freeze _
   exact MF hE (fun s γ' a' w' h1 h2=>⟨s,γ',h1,h2⟩) _ _ _ _ _ aww hK
 · intro i _;simp [Array.getD]
 · intro i j hi;exfalso;simp [Array.getD] at hi
 · intro j o x _ _ hi;exfalso;simp [Array.getD] at hi
 · have:=(h.drew (w.drawn+1))|>fun h=>aui h (vU st.n own Γ U ops.toList).D
   rw [ar5 (fun i=>by simp [Array.getD])]
   exact this
 · have:∀ n,Hq (fun i=>(Array.replicate ops.size false).getD i false) n≤n:=by
    intro n
    induction n with
    |zero=>exact Nat.le_refl _
    |succ n ih=>rw [Hq];split<;>omega
   exact this _
end Go.Fw
