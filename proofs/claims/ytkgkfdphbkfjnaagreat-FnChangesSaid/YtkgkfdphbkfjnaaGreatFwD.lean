import Derived.Test.YtkgkfdphbkfjnaaGreatFwB
namespace Go.Fw
open Go
variable {P:Program} {w0:World} {M:Nat→Prop} {T:Ext} {γ γ':Nat→Value} {st:St} {a:Act} {w w':World} {Θ:jC} {Γ:lF}
structure eU where
 d:Nat
 v:AV
 u:List (Nat×aQ)
 δ:List (Nat×aQ)
 k:List Nat
def EJ (acc:List Nat):List Edge→Nat
 |[]=>0
 |e::r=>match Region.binds .any e with
  |true=>(2 ^ e.on|||acc.getD e.on 0)|||EJ acc r
  |false=>EJ acc r
def masks:List Oper→List Nat→List Nat
 |[],acc=>acc
 |o::r,acc=>masks r (acc++[EJ acc o.after.toList])
def pick:List eU→Nat→(Nat→Bool)→List eU
 |[],_,_=>[]
 |x::r,j,m=>match m j with|true=>x::pick r (j+1) m|false=>pick r (j+1) m
def Ak:List eU→Nat→AV→AV
 |[],_,b=>b
 |x::r,t,b=>match Nat.beq t x.d with|true=>x.v|false=>Ak r t b
def lookO:List eU→Nat→Option aQ→Option aQ
 |[],_,b=>b
 |x::r,o,b=>match look x.δ o with|some y=>some y|none=>lookO r o b
def oq:List eU→Nat→Option aQ
 |[],_=>none
 |x::r,o=>match oq r o with|some y=>some y|none=>look x.u o
def lS (base:St) (l:List eU):St:=
 {n:=base.n,tmps:=fun t=>Ak l t (base.tmps t),ah:=fun o=>match oq l o with|some y=>some y|none=>lookO l o (base.ah o)}
def nU:List eU→List Nat
 |[]=>[]
 |x::r=>x.k++nU r
def vU (l:List Nat) (st:St):St:=match l with|[]=>st|l=>st.kill (bf l)
def after (base:St) (path:List eU) (m:Nat→Bool):St:=vU (nU (pick path 0 m)) (lS base (pick path 0 m))
def Cell.touch (S:Nat→Bool):Cell→Bool
 | .ref o=>S o
 |_=>false
def SV.touch (S:Nat→Bool):SV→Bool
 | .one c=>c.touch S
 | .agg cs=>cs.any (Cell.touch S)
def AV.touch (S:Nat→Bool):AV→Bool
 | .undef=>false
 | .sv v=>v.touch S
 | .ng vs=>vs.any (SV.touch S)
 | .cO o _=>S o
 | .oH o _ _=>S o
 | .win o _ _=>S o
 | .qR _ _ _ _=>false
 | .dG cs _=>cs.any (Cell.touch S)
 | .fn _ caps=>caps.any fun cs=>cs.any (Cell.touch S)
def aQ.touch (S:Nat→Bool):aQ→Bool
 | .var cs=>cs.any (Cell.touch S)
 | .arr _ _ _ _=>false
def St.adN (st:St) (L:List Nat):St:=match L with
 |[]=>st
 |L=>{n:=st.n,tmps:=fun t=>match (st.tmps t).touch (bf L) with|true=> .undef|false=>st.tmps t,
      ah:=fun o=>match bf L o with|true=>none|false=>match st.ah o with|some x=>(match x.touch (bf L) with|true=>none|false=>some x)|none=>none}
def afS (ms:List Nat) (i:Nat):List (Nat×Nat)→List Nat
 |[]=>[]
 |(e,q)::r=>match Nat.beq e i||((ms.getD i 0).testBit e||(ms.getD e 0).testBit i) with|true=>afS ms i r|false=>q::afS ms i r
def JO:List (Nat×Nat)→Nat→Nat→Bool
 |[],_,_=>false
 |(e,q)::r,i,o=>match Nat.beq e i&&Nat.beq q o with|true=>true|false=>JO r i o
def Zn:Op→Bool
 | .call {callee:= .builtin .append, .. }=>true
 |_=>false
def Ba:Op→Bool
 | .store _ _ _=>true
 |_=>false
def vC (n i:Nat) (o:Oper):Option Nat:=match o.dst with
 |some d=>some d
 |none=>match Ba o.op with|true=>some (n+i)|false=>none
def dstsOf (n:Nat):Nat→List Oper→List Nat
 |_,[]=>[]
 |i,o::r=>match vC n i o with|some d=>d::dstsOf n (i+1) r|none=>dstsOf n (i+1) r
def nodup:List Nat→Bool
 |[]=>true
 |x::r=>!(bf r x)&&nodup r
def dJ (D:List Nat) (st:St):St:=st.kill fun o=>bf D (o / 64)
def FC (d:Nat) (δ:List (Nat×aQ)):Bool:=δ.all fun x=>Nat.beq (x.1 / 64) d
def St.hide (st:St) (U:List Nat):St:={st with ah:=fun o=>match bf U o with|true=>none|false=>st.ah o}
def Am (Γ:lF) (o:Op):Bool:=match o with
 | .call {callee:= .value (.func f), .. }=>match Γ f with|some (.eff _ _)=>true|_=>false
 | .store _ _ _=>true
 |_=>false
def Rq (Γ:lF):Nat→List Oper→List Nat
 |_,[]=>[]
 |i,o::r=>match Am Γ o.op with|true=>i::Rq Γ (i+1) r|false=>Rq Γ (i+1) r
def Gq (ms:List Nat) (E:List Nat) (i:Nat):Bool:=E.all fun e=>Nat.beq e i||((ms.getD i 0).testBit e||(ms.getD e 0).testBit i)
def uP (st:St) (m:Mode) (x:AV):Option (Arg×Option Nat):=
 match m with
 | .val=>match qw st [x] with
   |some [a]=>some (a,none)
   |_=>none
 |m=>qI st m x
def zk (st:St):List Mode→List AV→Option (List Arg×List (Option Nat))
 |_,[]=>some ([],[])
 |ms,x::xs=>match uP st (ms.headD .val) x,zk st ms.tail xs with
  |some (a,o),some (as,os)=>some (a::as,o::os)
  |_,_=>none
def Arg.apX:Arg→Bool
 | .own _ _ _=>false
 |_=>true
def Rt (Γ:lF) (st:St):Op→Option (Prop×KZ×(List (Option Nat)×Bool))
 | .call {callee:= .value (.func f),args, .. }=>match Γ f with
   |some (.eff ms con)=>match zk st ms (handed st args.toList []) with
    |some (vs,os)=>match II (Gj ms (handed st args.toList []))||vs.all Arg.apX with
     |true=>match con vs with
      |some (p,ρ)=>some (p,ρ,(os,!(II (Gj ms (handed st args.toList [])))))
      |none=>none
     |false=>none
    |none=>none
   |_=>none
 |_=>none
def N8 (Θ:jC) (st:St):Op→Option (List (Nat×aQ))
 | .store t p x=>match st.ev x,Θ t,st.ev p with
   | .sv v,some ti, .cO o off=>match Nat.beq v.cells.length ti.cells.len,st.ah o with
     |true,some (.var cs)=>match Nat.ble (off+v.cells.length) cs.length with
      |true=>some [(o, .var (splice cs off v.cells))]
      |false=>none
     |_,_=>none
   |_,_,_=>none
 |_=>none
def alV (D U:List Nat) (υ:List (Nat×aQ)):Bool:=υ.all fun y=>bf U y.1&&!(bf D (y.1 / 64))
def Ru:List (Option Nat)→List Eff→Bool
 |[],_=>true
 |none::os,aZ=>Ru os aZ.tail
 |some _::os,aZ=>match aZ.head? with|some (.var _)=>Ru os aZ.tail|_=>false
def I5 (D U:List Nat) (d:Nat) (st:St) (os:List (Option Nat)×Bool) (out:Out) (aZ:List Eff):Option (AV×List (Nat×aQ)×List (Nat×aQ)):=
 match AX os.1&&(KA aZ (out.take (d*64+1)).2&&(Ru os.1 aZ&&(FC d (out.take (d*64+1)).2&&(!os.2||(out.made&&NS aZ))))),oh st os.1 aZ with
 |true,some υ=>match υ.all fun y=>bf U y.1&&!(bf D (y.1 / 64)) with
  |true=>some ((out.take (d*64+1)).1,υ,(out.take (d*64+1)).2)
  |false=>none
 |_,_=>none
structure Reg where
 D:List Nat
 U:List Nat
 ms:List Nat
 E:List Nat
 A:List (Nat×Nat)
 n:Nat
 F:List Nat
def pG (F:List Nat) (x:eU):eU:=match bf F x.d,x.v,x.u,x.δ with
 |true, .sv (.one (.ref q)),[],[(q', .arr e r l fr)]=>match Nat.beq q q' with
  |true=>⟨x.d, .sv (.one (.sl e r l fr)),[],[],x.k⟩
  |false=>x
 |_,_,_,_=>x
theorem qO (F:List Nat) (x:eU):(pG F x).d=x.d∧(pG F x).u=x.u∧(pG F x).k=x.k∧∀ y∈(pG F x).δ,y∈x.δ:=by
 unfold pG
 split
 · next q q' e r l fr _ hv hu hδ=>
   split
   · exact ⟨rfl,hu.symm,rfl,fun y hy=>by cases hy⟩
   · exact ⟨rfl,rfl,rfl,fun y hy=>hy⟩
 · exact ⟨rfl,rfl,rfl,fun y hy=>hy⟩
def idxOf:List Nat→Nat→Nat→Option Nat
 |[],_,_=>none
 |x::r,t,j=>match Nat.beq t x with|true=>some j|false=>idxOf r t (j+1)
def abR (R:Reg) (i t:Nat):Bool:=match idxOf R.D t 0 with
 |some j=>!(Nat.beq j i||((R.ms.getD i 0).testBit j||(R.ms.getD j 0).testBit i))
 |none=>false
def St.veil (st:St) (R:Reg) (i:Nat):St:={st with tmps:=fun t=>match abR R i t with|true=> .undef|false=>st.tmps t}
def viewAt (R:Reg) (base:St) (acc:List eU) (i:Nat):St:=
 ((match Gq R.ms R.E i with
 |true=>after base acc (R.ms.getD i 0).testBit
 |false=>(after base acc (R.ms.getD i 0).testBit).hide R.U).veil R i).adN (afS R.ms i R.A)
def Nw (Θ:jC) (Γ:lF) (R:Reg) (base:St) (i:Nat) (o:Oper) (d:Nat) (acc:List eU) (K:List eU→Prop):Prop:=
 match Am Γ o.op with
 |true=>match Ba o.op with
  |true=>match N8 Θ (viewAt R base acc i) o.op with
   |some υ=>match alV R.D R.U υ with
    |true=>K (acc++[⟨d, .ng [],υ,[],[]⟩])
    |false=>False
   |none=>False
  |false=>match Rt Γ (viewAt R base acc i) o.op with
   |some (p,ρ,os)=>p∧∀ t,ρ.R t→match I5 R.D R.U d (viewAt R base acc i) os (ρ.out t) (ρ.aZ t) with
    |some (v,υ,δ)=>K (acc++[⟨d,v,υ,δ,[]⟩])
    |none=>False
   |none=>False
 |false=>match Zn o.op with
  |true=>match Gm Θ (viewAt R base acc i) o.op with
   |some (p,q,x)=>match bf R.D (q / 64)&&(!(Nat.beq (q / 64) d)&&JO R.A i q) with
    |true=>p∧K (acc++[pG R.F ⟨d, .sv (.one (.ref (d*64+1))),[],[(d*64+1,x)],[q]⟩])
    |false=>False
   |none=>False
  |false=>match calm Θ Γ d (viewAt R base acc i) o.op with
   |some (p,v,δ)=>match FC d δ,quiet (viewAt R base acc i) o.op with
    |true,true=>K (acc++[pG R.F ⟨d,v,[],δ,[]⟩])
    |true,false=>p∧K (acc++[pG R.F ⟨d,v,[],δ,[]⟩])
    |false,_=>False
   |none=>False
def fix (g:Nat) (b:Bool) (acc:List eU):List eU:=
 match acc[g]? with
 |some x=>acc.set g {x with v:= .sv (.one (.bool b))}
 |none=>acc
def skipped (d:Nat):eU:=⟨d, .ng [],[],[],[]⟩
def wI (Θ:jC) (Γ:lF) (R:Reg) (base:St) (K:List eU→Prop):Nat→List Oper→List eU→Prop
 |_,[],acc=>K acc
 |i,o::r,acc=>match vC R.n i o,Nat.blt (R.ms.getD i 0) (2 ^ i) with
  |some d,true=>match o.guard with
   |none=>Nw Θ Γ R base i o d acc (wI Θ Γ R base K (i+1) r)
   |some (g,b)=>match (R.ms.getD i 0).testBit g,acc[g]? with
    |true,some x=>match x.v with
     | .sv (.one (.bool c))=>cond c
       (match b with
         |true=>Nw Θ Γ R base i o d (fix g true acc) (wI Θ Γ R base K (i+1) r)
         |false=>wI Θ Γ R base K (i+1) r (fix g true acc++[skipped d]))
       (match b with
         |false=>Nw Θ Γ R base i o d (fix g false acc) (wI Θ Γ R base K (i+1) r)
         |true=>wI Θ Γ R base K (i+1) r (fix g false acc++[skipped d]))
     | .ng _=>wI Θ Γ R base K (i+1) r (acc++[skipped d])
     |_=>False
    |_,_=>False
  |_,_=>False
def Wanted (R:Reg) (path:List eU) (i:Nat) (o:Oper):Prop:=
 o.guard=none∨∃ g b y,o.guard=some (g,b)∧(R.ms.getD i 0).testBit g=true∧path[g]? =some y∧y.v= .sv (.one (.bool b))
def abS (R:Reg) (path:List eU) (i:Nat) (o:Oper):Prop:=
 ∃ g b y,o.guard=some (g,b)∧(R.ms.getD i 0).testBit g=true∧path[g]? =some y∧((∃ c,y.v= .sv (.one (.bool c))∧c≠b)∨∃ vs,y.v= .ng vs)
def uI (Θ:jC) (Γ:lF) (R:Reg) (base:St) (path:List eU) (i:Nat) (o:Oper) (x:eU):Prop:=
 vC R.n i o=some x.d∧(R.ms.getD i 0)<2 ^ i∧
 ((Wanted R path i o∧
    ((Am Γ o.op=false∧Zn o.op=false∧∃ p v δ,calm Θ Γ x.d (viewAt R base path i) o.op=some (p,v,δ)∧p∧FC x.d δ=true∧x=pG R.F ⟨x.d,v,[],δ,[]⟩)∨
     (Am Γ o.op=false∧Zn o.op=true∧∃ p q y,Gm Θ (viewAt R base path i) o.op=some (p,q,y)∧p∧(bf R.D (q / 64)=true∧q / 64≠x.d∧JO R.A i q=true)∧
       x=pG R.F ⟨x.d, .sv (.one (.ref (x.d*64+1))),[],[(x.d*64+1,y)],[q]⟩)∨
     (Am Γ o.op=true∧Ba o.op=true∧∃ υ,N8 Θ (viewAt R base path i) o.op=some υ∧alV R.D R.U υ=true∧x=⟨x.d, .ng [],υ,[],[]⟩)∨
     ((Am Γ o.op=true∧Ba o.op=false)∧x.k=[]∧∃ p ρ os t,Rt Γ (viewAt R base path i) o.op=some (p,ρ,os)∧p∧ρ.R t∧
        (∀ t,ρ.R t→∃ r,I5 R.D R.U x.d (viewAt R base path i) os (ρ.out t) (ρ.aZ t)=some r)∧
        I5 R.D R.U x.d (viewAt R base path i) os (ρ.out t) (ρ.aZ t)=some (x.v,x.u,x.δ))))∨
  (abS R path i o∧x=skipped x.d))
def Enabled (Θ:jC) (Γ:lF) (R:Reg) (base:St) (path:List eU) (i:Nat) (o:Oper):Prop:=
 ∃ d,vC R.n i o=some d∧(R.ms.getD i 0)<2 ^ i∧
 ((Wanted R path i o∧
    ((Am Γ o.op=false∧Zn o.op=false∧∃ p v δ,calm Θ Γ d (viewAt R base path i) o.op=some (p,v,δ)∧p∧FC d δ=true)∨
     (Am Γ o.op=false∧Zn o.op=true∧∃ p q y,Gm Θ (viewAt R base path i) o.op=some (p,q,y)∧p∧(bf R.D (q / 64)=true∧q / 64≠d∧JO R.A i q=true))∨
     (Am Γ o.op=true∧Ba o.op=true∧∃ υ,N8 Θ (viewAt R base path i) o.op=some υ∧alV R.D R.U υ=true)∨
     ((Am Γ o.op=true∧Ba o.op=false)∧∃ p ρ os,Rt Γ (viewAt R base path i) o.op=some (p,ρ,os)∧p∧
        ∀ t,ρ.R t→∃ r,I5 R.D R.U d (viewAt R base path i) os (ρ.out t) (ρ.aZ t)=some r)))∨
  abS R path i o)
theorem ajb {g:Nat} {b:Bool} {acc:List eU} {x:eU} (h:acc[g]? =some x) (hv:x.v= .sv (.one (.bool b))):fix g b acc=acc:=by
 unfold fix
 rw [h]
 obtain ⟨hlt,hx⟩:=List.getElem?_eq_some_iff.1 h
 refine List.ext_getElem? fun i=>?_
 by_cases hi:i=g
 · subst hi
   rw [List.getElem?_set_self hlt,h]
   cases x
   simp at hv
   simp [hv]
 · rw [List.getElem?_set_ne (Ne.symm hi)]
theorem ahj:∀ (l:List eU) (j:Nat) (m:Nat→Bool),(∀ i,j≤i→m i=false)→pick l j m=[]
 |[],_,_,_=>rfl
 |x::r,j,m,h=>by rw [pick,h j (Nat.le_refl _)];exact ahj r (j+1) m fun i hi=>h i (by omega)
theorem Qm (r:List eU) (m:Nat→Bool):∀ (l:List eU) (j:Nat),pick (l++r) j m=pick l j m++pick r (j+l.length) m
 |[],j=>by simp [pick]
 |x::l,j=>by
  rw [List.cons_append,pick,pick,Qm r m l (j+1),List.length_cons,show j+1+l.length=j+(l.length+1) by omega]
  cases m j<;>rfl
theorem MK {m:Nat→Bool}:∀ (l l':List eU) (j:Nat),(∀ i,m (j+i)=true→l[i]? =l'[i]?)→pick l j m=pick l' j m
 |[],[],_,_=>rfl
 |[],y::r,j,h=>by
  cases hm:m j with
  |true=>have:=h 0 (by simpa using hm);simp at this
  |false=>
   rw [pick,pick,hm]
   exact MK [] r (j+1) fun i hi=>by have:=h (i+1) (by rw [show j+(i+1)=j+1+i by omega];exact hi);simpa using this
 |x::l,[],j,h=>by
  cases hm:m j with
  |true=>have:=h 0 (by simpa using hm);simp at this
  |false=>
   rw [pick,pick,hm]
   exact MK l [] (j+1) fun i hi=>by have:=h (i+1) (by rw [show j+(i+1)=j+1+i by omega];exact hi);simpa using this
 |x::l,y::r,j,h=>by
  have ih:=MK l r (j+1) fun i hi=>by have:=h (i+1) (by rw [show j+(i+1)=j+1+i by omega];exact hi);simpa using this
  rw [pick,pick]
  cases hm:m j with
  |true=>have:=h 0 (by simpa using hm);simp at this;rw [this,ih]
  |false=>exact ih
theorem lg {m:Nat→Bool} {x:eU}:∀ (l:List eU) (j:Nat),x∈pick l j m↔∃ i,m (j+i)=true∧l[i]? =some x
 |[],j=>by simp [pick]
 |y::l,j=>by
  have ih:=lg (m:=m) (x:=x) l (j+1)
  have e:∀ i,j+1+i=j+(i+1):=fun i=>by omega
  rw [pick]
  cases hm:m j with
  |true=>
   simp only [List.mem_cons,ih]
   constructor
   · rintro (rfl|⟨i,h1,h2⟩)
     · exact ⟨0,by simpa using hm,rfl⟩
     · exact ⟨i+1,by rw [← e];exact h1,by simpa using h2⟩
   · rintro ⟨i,h1,h2⟩
     cases i with
     |zero=>simp at h2;exact .inl h2.symm
     |succ i=>exact .inr ⟨i,by rw [e];exact h1,by simpa using h2⟩
  |false=>
   simp only [ih]
   constructor
   · rintro ⟨i,h1,h2⟩;exact ⟨i+1,by rw [← e];exact h1,by simpa using h2⟩
   · rintro ⟨i,h1,h2⟩
     cases i with
     |zero=>rw [Nat.add_zero,hm] at h1;cases h1
     |succ i=>exact ⟨i,by rw [e];exact h1,by simpa using h2⟩
theorem pY {m i j:Nat} (h:m<2 ^ i) (hj:i≤j):m.testBit j=false:=
 Nat.testBit_lt_two_pow (Nat.lt_of_lt_of_le h (Nat.pow_le_pow_right (by decide) hj))
theorem N9 {R:Reg} {base:St} {l l':List eU} {i:Nat} (h:∀ j,(R.ms.getD i 0).testBit j=true→l[j]? =l'[j]?):viewAt R base l i=viewAt R base l' i:=by
 unfold viewAt after
 rw [MK l l' 0 fun j hj=>h j (by simpa using hj)]
theorem uI.agree {R:Reg} {base:St} {l l':List eU} {i:Nat} {o:Oper} {x:eU} (h:∀ j,(R.ms.getD i 0).testBit j=true→l[j]? =l'[j]?) (hr:uI Θ Γ R base l i o x):uI Θ Γ R base l' i o x:=by
 obtain ⟨h1,h2,h3⟩:=hr
 refine ⟨h1,h2,?_⟩
 rw [← N9 h]
 refine h3.imp (And.imp (Or.imp id ?_) id) (And.imp ?_ id)
 · rintro ⟨g,b,y,e1,e2,e3,e4⟩;exact ⟨g,b,y,e1,e2,h g e2▸e3,e4⟩
 · rintro ⟨g,b,y,e1,e2,e3,e4⟩;exact ⟨g,b,y,e1,e2,h g e2▸e3,e4⟩
theorem Enabled.agree {R:Reg} {base:St} {l l':List eU} {i:Nat} {o:Oper} (h:∀ j,(R.ms.getD i 0).testBit j=true→l[j]? =l'[j]?) (hr:Enabled Θ Γ R base l i o):Enabled Θ Γ R base l' i o:=by
 obtain ⟨d,h1,h2,h3⟩:=hr
 refine ⟨d,h1,h2,?_⟩
 rw [← N9 h]
 refine h3.imp (And.imp (Or.imp id ?_) id) ?_
 · rintro ⟨g,b,y,e1,e2,e3,e4⟩;exact ⟨g,b,y,e1,e2,h g e2▸e3,e4⟩
 · rintro ⟨g,b,y,e1,e2,e3,e4⟩;exact ⟨g,b,y,e1,e2,h g e2▸e3,e4⟩
theorem vV {l:List Nat} {x:Nat}:bf l x=true↔x∈l:=by
 induction l with
 |nil=>simp [bf]
 |cons y l ih=>
  rw [bf,List.mem_cons]
  cases hb:Nat.beq x y with
  |true=>simp [Nat.eq_of_beq_eq_true hb]
  |false=>
   simp only [ih]
   constructor
   · exact .inr
   · rintro (rfl|h)
     · simp at hb
     · exact h
theorem adO {n:Nat} {o:Oper} {d:Nat}:∀ (l:List Oper) (i j:Nat),l[j]? =some o→vC n (i+j) o=some d→d∈dstsOf n i l
 |[],_,_,ho,_=>by simp at ho
 |x::r,i,0,ho,hd=>by
  simp at ho;subst ho
  rw [Nat.add_zero] at hd
  rw [dstsOf,hd]
  exact List.mem_cons_self
 |x::r,i,j+1,ho,hd=>by
  have:=adO r (i+1) j (by simpa using ho) (by rw [show i+1+j=i+(j+1) by omega];exact hd)
  rw [dstsOf]
  split
  · exact List.mem_cons_of_mem _ this
  · exact this
def abT (Θ:jC) (Γ:lF) (R:Reg) (base:St) (ops:List Oper) (path:List eU):Prop:=
 ∀ i o x,ops[i]? =some o→path[i]? =some x→uI Θ Γ R base path i o x
theorem CY {acc ext:List eU} {j:Nat} (h:j<acc.length):(acc++ext)[j]? =acc[j]? :=List.getElem?_append_left h
theorem aaW {R:Reg} {base:St} {K:List eU→Prop}:∀ (rest pre:List Oper) (acc ext:List eU),acc.length=pre.length→ext.length≤rest.length→
 wI Θ Γ R base K pre.length rest acc→abT Θ Γ R base (pre++rest) (acc++ext)→
 (ext.length=rest.length→K (acc++ext))∧∀ o,rest[ext.length]? =some o→Enabled Θ Γ R base (acc++ext) (pre.length+ext.length) o
 |[],pre,acc,ext,hl,hle,hr,hc=>by
  have:ext=[]:=by cases ext with|nil=>rfl|cons _ _=>simp at hle
  subst this
  rw [wI] at hr
  exact ⟨fun _=>by rw [List.append_nil];exact hr,fun o ho=>by simp at ho⟩
 |o::rest,pre,acc,ext,hl,hle,hr,hc=>by
  rw [wI] at hr
  split at hr
  case h_2=>exact hr.elim
  next d hd hm=>
  have hm':R.ms.getD pre.length 0<2 ^ pre.length:=by simpa [Nat.blt_eq] using hm
  have key:(Wanted R acc pre.length o∧Nw Θ Γ R base pre.length o d acc (wI Θ Γ R base K (pre.length+1) rest))∨
   (abS R acc pre.length o∧wI Θ Γ R base K (pre.length+1) rest (acc++[skipped d])):=by
   split at hr
   · next hg=>exact .inl ⟨.inl hg,hr⟩
   · next g b hg=>
     split at hr
     · next x hbit hx=>
       split at hr
       · next c hc'=>
         cases c
         · simp only [cond_false,ajb hx hc'] at hr
           cases b
           · exact .inl ⟨.inr ⟨g,false,x,hg,hbit,hx,hc'⟩,hr⟩
           · exact .inr ⟨⟨g,true,x,hg,hbit,hx, .inl ⟨false,hc',by simp⟩⟩,hr⟩
         · simp only [cond_true,ajb hx hc'] at hr
           cases b
           · exact .inr ⟨⟨g,false,x,hg,hbit,hx, .inl ⟨true,hc',by simp⟩⟩,hr⟩
           · exact .inl ⟨.inr ⟨g,true,x,hg,hbit,hx,hc'⟩,hr⟩
       · next vs hc'=>exact .inr ⟨⟨g,b,x,hg,hbit,hx, .inr ⟨vs,hc'⟩⟩,hr⟩
       · exact hr.elim
     · exact hr.elim
  have ajc:∀ ext:List eU,∀ j,(R.ms.getD pre.length 0).testBit j=true→acc[j]? =(acc++ext)[j]? :=by
   intro ext j hj
   rcases Nat.lt_or_ge j acc.length with h|h
   · rw [CY h]
   · rw [pY hm' (by omega)] at hj;cases hj
  cases ext with
  |nil=>
   refine ⟨fun h=>by simp at h,fun o' ho'=>?_⟩
   have:o'=o:=by simpa using ho'.symm
   subst this
   rw [List.append_nil]
   simp only [List.length_nil,Nat.add_zero]
   refine ⟨d,hd,hm',?_⟩
   rcases key with ⟨hw,hs⟩|⟨hw,_⟩
   · refine .inl ⟨hw,?_⟩
     unfold Nw at hs
     split at hs
     · next he=>
      split at hs
      · next hst=>
       refine .inr (.inr (.inl ⟨he,hst,?_⟩))
       split at hs
       · next υ hυ=>
         split at hs
         · next hin=>exact ⟨υ,hυ,hin⟩
         · exact hs.elim
       · exact hs.elim
      · next hst=>
       refine .inr (.inr (.inr ⟨⟨he,hst⟩,?_⟩))
       split at hs
       · next p ρ os hrel=>
         refine ⟨p,ρ,os,hrel,hs.1,fun t ht=>?_⟩
         have:=hs.2 t ht
         split at this
         · next v υ δ hres=>exact ⟨_,hres⟩
         · exact this.elim
       · exact hs.elim
     · next he=>
       split at hs
       · next ha=>
         refine .inr (.inl ⟨he,ha,?_⟩)
         split at hs
         · next p q y happ=>
           split at hs
           · next hb=>
             rw [Bool.and_eq_true,Bool.and_eq_true] at hb
             exact ⟨p,q,y,happ,hs.1,hb.1,(fun e=>by rw [e,Nat.beq_refl] at hb;simp at hb),hb.2.2⟩
           · exact hs.elim
         · exact hs.elim
       · next ha=>
         refine .inl ⟨he,ha,?_⟩
         split at hs
         · next p v δ hcalm=>
           split at hs
           · next hn hq=>exact ⟨p,v,δ,hcalm,TD hcalm hq,hn⟩
           · next hn hq=>exact ⟨p,v,δ,hcalm,hs.1,hn⟩
           · exact hs.elim
         · exact hs.elim
   · exact .inr hw
  |cons x ext=>
   have hx:uI Θ Γ R base (acc++x::ext) pre.length o x:=by
    refine hc pre.length o x ?_ ?_
    · rw [List.getElem?_append_right (Nat.le_refl _)];simp
    · rw [← hl,List.getElem?_append_right (Nat.le_refl _)];simp
   obtain ⟨e1,_,e3⟩:=hx
   have hxd:x.d=d:=by rw [hd] at e1;exact (Option.some.inj e1).symm
   have aqz:viewAt R base acc pre.length=viewAt R base (acc++x::ext) pre.length:=N9 (ajc _)
   have hnext:wI Θ Γ R base K (pre.length+1) rest (acc++[x]):=by
    rcases key with ⟨hw,hs⟩|⟨hw,hs⟩
    · rcases e3 with ⟨_,e3⟩|⟨⟨g,b,y,f1,f2,f3,f4⟩,_⟩
      · rw [← aqz,hxd] at e3
        unfold Nw at hs
        rcases e3 with ⟨he,ha,p,v,δ,hcalm,_,hn,hxx⟩|⟨he,ha,p,q,y,happ,_,_,hxx⟩|⟨he,hst,υ,hυ,hin,hxx⟩|⟨⟨he,hst⟩,hk,p,ρ,os,t,hrel,_,ht,_,hres⟩
        · rw [he,ha] at hs
          simp only [hcalm] at hs
          split at hs
          · rw [hxx];exact hs
          · rw [hxx];exact hs.2
          · exact hs.elim
        · rw [he,ha] at hs
          simp only [happ] at hs
          split at hs
          · rw [hxx];exact hs.2
          · exact hs.elim
        · rw [he,hst] at hs
          simp only [hυ,hin] at hs
          rw [hxx];exact hs
        · rw [he,hst] at hs
          simp only [hrel] at hs
          have h2:=hs.2 t ht
          simp only [hres] at h2
          have ex:x=⟨d,x.v,x.u,x.δ,[]⟩:=by cases x;simp at hxd hk;simp [hxd,hk]
          rw [ex];exact h2
      · exfalso
        rw [← ajc _ g f2] at f3
        rcases hw with hw|⟨g',b',y',k1,k2,k3,k4⟩
        · rw [hw] at f1;cases f1
        · rw [f1] at k1;cases k1
          rw [f3] at k3;cases k3
          rcases f4 with ⟨c,f4,hne⟩|⟨vs,f4⟩
          · rw [f4] at k4;cases k4;exact hne rfl
          · rw [f4] at k4;cases k4
    · rcases e3 with ⟨hw',_⟩|⟨_,f1⟩
      · exfalso
        obtain ⟨g,b,y,k1,k2,k3,k4⟩:=hw
        rcases hw' with hw'|⟨g',b',y',l1,l2,l3,l4⟩
        · rw [hw'] at k1;cases k1
        · rw [k1] at l1;cases l1
          rw [← ajc _ g l2,k3] at l3;cases l3
          rcases k4 with ⟨c,k4,hne⟩|⟨vs,k4⟩
          · rw [k4] at l4;cases l4;exact hne rfl
          · rw [k4] at l4;cases l4
      · rw [hxd] at f1
        rw [f1];exact hs
   have ih:=aaW rest (pre++[o]) (acc++[x]) ext (by simp [hl]) (by simpa using hle) (by simpa using hnext) (by simpa using hc)
   simp only [List.append_assoc,List.singleton_append,List.length_append,List.length_cons,List.length_nil] at ih
   refine ⟨fun h=>ih.1 (by simpa using h),fun o' ho'=>?_⟩
   have:=ih.2 o' (by simpa using ho')
   rw [show pre.length+(0+1)+ext.length=pre.length+(ext.length+1) by omega] at this
   simpa using this
theorem G6 (acc:List Nat) (j:Nat):∀ (es:List Edge),(EJ acc es).testBit j=true↔∃ e∈es,Region.binds .any e=true∧(e.on=j∨(acc.getD e.on 0).testBit j=true)
 |[]=>by simp [EJ]
 |e::r=>by
  rw [EJ]
  cases hb:Region.binds .any e with
  |false=>
   simp only [G6 acc j r,List.mem_cons]
   constructor
   · rintro ⟨e',h1,h2⟩;exact ⟨e', .inr h1,h2⟩
   · rintro ⟨e',rfl|h1,h2⟩
     · rw [hb] at h2;cases h2.1
     · exact ⟨e',h1,h2⟩
  |true=>
   simp only [Nat.testBit_or,Bool.or_eq_true,G6 acc j r,List.mem_cons,Nat.testBit_two_pow,decide_eq_true_eq]
   constructor
   · rintro ((h|h)|⟨e',h1,h2⟩)
     · exact ⟨e, .inl rfl,hb, .inl h⟩
     · exact ⟨e, .inl rfl,hb, .inr h⟩
     · exact ⟨e', .inr h1,h2⟩
   · rintro ⟨e',rfl|h1,h2⟩
     · exact .inl h2.2
     · exact .inr ⟨e',h1,h2⟩
theorem TM:∀ (l:List Oper) (acc:List Nat) (i:Nat),i<acc.length→(masks l acc).getD i 0=acc.getD i 0
 |[],_,_,_=>rfl
 |o::r,acc,i,h=>by
  rw [masks,TM r _ i (by simp;omega)]
  simp [List.getD_eq_getElem?_getD,List.getElem?_append_left h]
theorem TN:∀ (l:List Oper) (acc:List Nat) (i:Nat) (o:Oper),l[i]? =some o→∃ acc',(masks l acc).getD (acc.length+i) 0=EJ acc' o.after.toList∧
 (∀ j,j<acc'.length→(masks l acc).getD j 0=acc'.getD j 0)
 |[],_,_,_,h=>by simp at h
 |o::r,acc,0,o',h=>by
  simp at h;subst h
  refine ⟨acc,?_,fun j hj=>?_⟩
  · rw [masks,TM r _ _ (by simp)]
    simp [List.getD_eq_getElem?_getD]
  · rw [masks,TM r _ _ (by simp;omega)]
    simp [List.getD_eq_getElem?_getD,List.getElem?_append_left hj]
 |o::r,acc,i+1,o',h=>by
  obtain ⟨acc',h1,h2⟩:=TN r (acc++[EJ acc o.after.toList]) i o' (by simpa using h)
  refine ⟨acc',?_,?_⟩
  · rw [masks,← h1];simp only [List.length_append,List.length_singleton];congr 1;omega
  · rw [masks];exact h2
theorem ahk {ops:List Oper} {i:Nat} {o:Oper} (ho:ops[i]? =some o) {e:Edge} (he:e∈o.after) (hb:Region.binds .any e=true):((masks ops []).getD i 0).testBit e.on=true:=by
 obtain ⟨acc',h1,_⟩:=TN ops [] i o ho
 simp only [List.length_nil,Nat.zero_add] at h1
 rw [h1,G6]
 exact ⟨e,by simpa using he,hb, .inl rfl⟩
theorem am5 {ops:List Oper} {i:Nat} {o:Oper} (ho:ops[i]? =some o) {j:Nat} (hj:((masks ops []).getD i 0).testBit j=true):
 ∃ e∈o.after,Region.binds .any e=true∧(e.on=j∨((masks ops []).getD e.on 0).testBit j=true):=by
 obtain ⟨acc',h1,h2⟩:=TN ops [] i o ho
 simp only [List.length_nil,Nat.zero_add] at h1
 rw [h1,G6] at hj
 obtain ⟨e,he,hb,hj⟩:=hj
 refine ⟨e,by simpa using he,hb,hj.imp id fun h=>?_⟩
 rcases Nat.lt_or_ge e.on acc'.length with hlt|hge
 · rw [h2 _ hlt];exact h
 · rw [List.getD_eq_getElem?_getD,List.getElem?_eq_none hge] at h;simp at h
def Ig (L:Nat→Bool):Nat→Nat
 |0=>0
 |n+1=>(match L n with|true=>0|false=>1)+Ig L n
theorem ahl {L L':Nat→Bool}:∀ (n:Nat),(∀ i,i<n→L i=L' i)→Ig L n=Ig L' n
 |0,_=>rfl
 |n+1,h=>by rw [Ig,Ig,h n (by omega),ahl n fun i hi=>h i (by omega)]
theorem ak0 {L L':Nat→Bool} {i:Nat} (hi:L i=false) (hi':L' i=true) (h:∀ j,j≠i→L' j=L j):∀ (n:Nat),i<n→Ig L' n+1=Ig L n
 |0,hn=>by omega
 |n+1,hn=>by
  rw [Ig,Ig]
  by_cases e:n=i
  · subst e
    rw [hi,hi',ahl (L:=L') (L':=L) n fun j hj=>h j (by omega)]
    simp only;omega
  · have:=ak0 hi hi' h n (by omega)
    rw [h n e];omega
theorem ajd {L:Nat→Bool}:∀ (n:Nat),Ig L n=0→∀ i,i<n→L i=true
 |0,_,i,hi=>by omega
 |n+1,h,i,hi=>by
  rw [Ig] at h
  cases hl:L n with
  |false=>simp only [hl] at h;omega
  |true=>
   by_cases e:i=n
   · rw [e];exact hl
   · exact ajd n (by simp only [hl] at h;omega) i (by omega)
theorem least {p:Nat→Prop} [DecidablePred p]:∀ (n:Nat),(∃ i,i<n∧p i)→∃ i,i<n∧p i∧∀ j,j<i→¬ p j:=by
 intro n
 induction n using Nat.strongRecOn with
 |_ n ih=>
  rintro ⟨i,hi,hp⟩
  by_cases h:∃ j,j<i∧p j
  · obtain ⟨j,hj,h1,h2⟩:=ih i hi h
    exact ⟨j,by omega,h1,h2⟩
  · exact ⟨i,hi,hp,fun j hj hpj=>h ⟨j,hj,hpj⟩⟩
structure Fits (D U:List Nat) (l:List eU):Prop where
 one:∀ x∈l,∀ y∈l,x.d=y.d→x=y
 mem:∀ x∈l,bf D x.d=true
 new:∀ x∈l,FC x.d x.δ=true
 upd:∀ x∈l,∀ o y,look x.u o=some y→bf U o=true∧bf D (o / 64)=false
theorem vW {d:Nat} {δ:List (Nat×aQ)} (h:FC d δ=true) {o:Nat} {y:aQ} (hl:look δ o=some y):o / 64=d:=
 Nat.eq_of_beq_eq_true (List.all_eq_true.1 h _ (wR δ o y hl))
theorem TP {t:Nat} {b:AV}:∀ (l:List eU),(∀ x∈l,x.d≠t)→Ak l t b=b
 |[],_=>rfl
 |x::r,h=>by
  rw [Ak]
  have:Nat.beq t x.d=false:=by
   cases hb:Nat.beq t x.d with
   |false=>rfl
   |true=>exact (h x List.mem_cons_self (Nat.eq_of_beq_eq_true hb).symm).elim
  rw [this]
  exact TP r fun y hy=>h y (List.mem_cons_of_mem _ hy)
theorem PN {b:AV} {x:eU}:∀ (l:List eU),x∈l→(∀ y∈l,x.d=y.d→x=y)→Ak l x.d b=x.v
 |[],h,_=>by cases h
 |y::r,h,hu=>by
  rw [Ak]
  cases hb:Nat.beq x.d y.d with
  |true=>rw [hu y List.mem_cons_self (Nat.eq_of_beq_eq_true hb)]
  |false=>
   rcases List.mem_cons.1 h with rfl|h
   · simp at hb
   · exact PN r h fun z hz=>hu z (List.mem_cons_of_mem _ hz)
theorem ML {o:Nat} {b:Option aQ}:∀ (l:List eU),(∀ x∈l,look x.δ o=none)→lookO l o b=b
 |[],_=>rfl
 |x::r,h=>by
  rw [lookO,h x List.mem_cons_self]
  exact ML r fun y hy=>h y (List.mem_cons_of_mem _ hy)
theorem Xl {o:Nat} {b:Option aQ} {x:eU} {z:aQ}:∀ (l:List eU),x∈l→look x.δ o=some z→(∀ y∈l,∀ z',look y.δ o=some z'→x=y)→lookO l o b=some z
 |[],h,_,_=>by cases h
 |y::r,h,hz,hu=>by
  rw [lookO]
  cases hy:look y.δ o with
  |some z'=>have:=hu y List.mem_cons_self z' hy;subst this;rw [hz] at hy;exact hy.symm
  |none=>
   rcases List.mem_cons.1 h with rfl|h
   · rw [hz] at hy;cases hy
   · exact Xl r h hz fun w hw=>hu w (List.mem_cons_of_mem _ hw)
theorem FD {o:Nat}:∀ (l:List eU),(∀ x∈l,look x.u o=none)→oq l o=none
 |[],_=>rfl
 |x::r,h=>by
  rw [oq,FD r fun y hy=>h y (List.mem_cons_of_mem _ hy)]
  exact h x List.mem_cons_self
theorem Oa {o:Nat} (r:List eU):∀ (l:List eU),oq (l++r) o=match oq r o with|some y=>some y|none=>oq l o
 |[]=>by simp only [List.nil_append,oq];cases oq r o<;>rfl
 |x::l=>by
  rw [List.cons_append,oq,Oa r l,oq]
  cases oq r o<;>rfl
theorem aaX {o:Nat} {m m':Nat→Bool}:∀ (l:List eU) (j:Nat),(∀ i x,l[i]? =some x→x.u≠[]→m (j+i)=m' (j+i))→oq (pick l j m) o=oq (pick l j m') o
 |[],_,_=>rfl
 |x::r,j,h=>by
  have ih:=aaX (o:=o) (m:=m) (m':=m') r (j+1) (fun i y hi hy=>by
   have:=h (i+1) y (by simpa using hi) hy
   rwa [show j+(i+1)=j+1+i by omega] at this)
  have h0:=h 0 x rfl
  rw [Nat.add_zero] at h0
  rw [pick,pick]
  cases hm:m j<;>cases hm':m' j
  · exact ih
  · have hx:x.u=[]:=Classical.byContradiction fun e=>by have:=h0 e;rw [hm,hm'] at this;cases this
    simp only [oq,hx,look]
    rw [ih]
    cases oq (pick r (j+1) m') o<;>rfl
  · have hx:x.u=[]:=Classical.byContradiction fun e=>by have:=h0 e;rw [hm,hm'] at this;cases this
    simp only [oq,hx,look]
    rw [ih]
    cases oq (pick r (j+1) m') o<;>rfl
  · simp only [oq,ih]
theorem aaY {x:eU} {t:Nat} {b:AV} (r:List eU):∀ (l:List eU),(∀ y∈l,y.d≠x.d)→Ak (l++x::r) t b=match Nat.beq t x.d with|true=>x.v|false=>Ak (l++r) t b
 |[],_=>by simp only [List.nil_append,Ak]<;>rfl
 |y::l,h=>by
  rw [List.cons_append,List.cons_append,Ak,aaY r l fun z hz=>h z (List.mem_cons_of_mem _ hz),Ak]
  cases hb:Nat.beq t y.d with
  |false=>rfl
  |true=>
   have:Nat.beq t x.d=false:=by
    cases hb2:Nat.beq t x.d with
    |false=>rfl
    |true=>exact (h y List.mem_cons_self ((Nat.eq_of_beq_eq_true hb).symm.trans (Nat.eq_of_beq_eq_true hb2))).elim
   rw [this]
theorem aaZ {x:eU} {o:Nat} {b:Option aQ} (r:List eU):∀ (l:List eU),(∀ y∈l,∀ z z',look y.δ o=some z→look x.δ o=some z'→False)→
 lookO (l++x::r) o b=match look x.δ o with|some y=>some y|none=>lookO (l++r) o b
 |[],_=>by simp only [List.nil_append,lookO]<;>(cases look x.δ o<;>rfl)
 |y::l,h=>by
  rw [List.cons_append,List.cons_append,lookO,aaZ r l fun z hz=>h z (List.mem_cons_of_mem _ hz),lookO]
  cases hy:look y.δ o with
  |none=>rfl
  |some z=>
   cases hx:look x.δ o with
   |none=>rfl
   |some z'=>exact (h y List.mem_cons_self z z' hy hx).elim
theorem akl {base:St} {D U:List Nat} {l r:List eU} {x:eU} (hf:Fits D U (l++x::r)) (hne:∀ y∈l++r,y.d≠x.d) (hu:x.u≠[]→∀ y∈r,y.u=[]):
 (((lS base (l++r)).adds x.u).adds x.δ).set x.d x.v=lS base (l++x::r):=by
 have hx:x∈l++x::r:=by simp
 have hsub:∀ y∈l++r,y∈l++x::r:=fun y hy=>by
  rcases List.mem_append.1 hy with h|h
  · exact List.mem_append_left _ h
  · exact List.mem_append_right _ (List.mem_cons_of_mem _ h)
 have e1:(((lS base (l++r)).adds x.u).adds x.δ).set x.d x.v={n:=base.n,tmps:=fun t=>match Nat.beq t x.d with|true=>x.v|false=>Ak (l++r) t (base.tmps t),ah:=(((lS base (l++r)).adds x.u).adds x.δ).ah}:=by
  rw [Q7,Q7 (lS base (l++r)) x.u];rfl
 rw [e1]
 unfold lS
 congr 1
 · funext t
   rw [aaY r l fun y hy=>hne y (List.mem_append_left _ hy)]
 · funext o
   rw [nG,nG]
   have hO:=aaZ (x:=x) (o:=o) (b:=base.ah o) r l fun y hy z z' hz hz'=>hne y (List.mem_append_left _ hy) ((vW (hf.new y (hsub y (List.mem_append_left _ hy))) hz).symm.trans (vW (hf.new x hx) hz'))
   have hU:oq (l++x::r) o=match look x.u o with|some y=>some y|none=>oq (l++r) o:=by
    rw [Oa,Oa,oq]
    by_cases hxu:x.u=[]
    · rw [hxu,look]
      cases oq r o<;>rfl
    · rw [FD r fun y hy=>by rw [hu hxu y hy];rfl]
   rw [hO,hU]
   cases hδ:look x.δ o with
   |none=>cases look x.u o<;>rfl
   |some z=>
    have hod:bf D (o / 64)=true:=by rw [vW (hf.new x hx) hδ];exact hf.mem x hx
    have nou:∀ y∈l++x::r,look y.u o=none:=fun y hy=>by
     cases hl:look y.u o with
     |none=>rfl
     |some w=>have:=(hf.upd y hy o w hl).2;rw [hod] at this;cases this
    rw [nou x hx,FD (l++r) fun y hy=>nou y (hsub y hy)]
theorem ou {o:Nat}:∀ (l:List eU),bf (nU l) o=true↔∃ x∈l,o∈x.k
 |[]=>by simp [nU,bf]
 |x::r=>by
  rw [vV,nU,List.mem_append,← vV (l:=nU r),ou r]
  constructor
  · rintro (h|⟨y,hy,h⟩)
    · exact ⟨x,List.mem_cons_self,h⟩
    · exact ⟨y,List.mem_cons_of_mem _ hy,h⟩
  · rintro ⟨y,hy,h⟩
    rcases List.mem_cons.1 hy with rfl|hy
    · exact .inl h
    · exact .inr ⟨y,hy,h⟩
theorem Cell.Bc {S:Nat→Bool} (h:∀ o,S o=false):∀ (c:Cell),c.kill S=c
 | .int _ _| .bool _| .str _| .nil| .sl _ _ _ _| .junk=>rfl
 | .ref o=>by simp only [Cell.kill,h o]
theorem Cell.tu {S S' S2:Nat→Bool} (h:∀ o,S2 o=(S o||S' o)):∀ (c:Cell),(c.kill S).kill S'=c.kill S2
 | .int _ _| .bool _| .str _| .nil| .sl _ _ _ _| .junk=>rfl
 | .ref o=>by
   simp only [Cell.kill,h o]
   cases S o
   · simp only [Bool.false_or]
   · rfl
theorem Ej {S S' S2:Nat→Bool} (h:∀ o,S2 o=(S o||S' o)) (cs:List Cell):(cs.map (Cell.kill S)).map (Cell.kill S')=cs.map (Cell.kill S2):=by
 rw [List.map_map]
 exact List.map_congr_left fun c _=>Cell.tu h c
theorem SV.tu {S S' S2:Nat→Bool} (h:∀ o,S2 o=(S o||S' o)):∀ (c:SV),(c.kill S).kill S'=c.kill S2
 | .one c=>by simp only [SV.kill,Cell.tu h]
 | .agg cs=>by simp only [SV.kill,Ej h]
theorem AV.tu {S S' S2:Nat→Bool} (h:∀ o,S2 o=(S o||S' o)):∀ (c:AV),(c.kill S).kill S'=c.kill S2
 | .undef=>rfl
 | .sv v=>by simp only [AV.kill,SV.tu h]
 | .ng vs=>by
   simp only [AV.kill]
   rw [List.map_map,List.map_congr_left fun c _=>(show ((SV.kill S') ∘ (SV.kill S)) c=SV.kill S2 c from SV.tu h c)]
 | .cO o off=>by
   simp only [AV.kill,h o]
   cases S o
   · simp only [Bool.false_or]
   · rfl
 | .oH o i off=>by
   simp only [AV.kill,h o]
   cases S o
   · simp only [Bool.false_or]
   · rfl
 | .win o i off=>by
   simp only [AV.kill,h o]
   cases S o
   · simp only [Bool.false_or]
   · rfl
 | .qR _ _ _ _=>rfl
 | .dG cs off=>by simp only [AV.kill,Ej h]
 | .fn g caps=>by
   simp only [AV.kill]
   rw [List.map_map,List.map_congr_left fun c _=>(show ((List.map (Cell.kill S')) ∘ (List.map (Cell.kill S))) c=List.map (Cell.kill S2) c from Ej h c)]
theorem aQ.tu {S S' S2:Nat→Bool} (h:∀ o,S2 o=(S o||S' o)):∀ (c:aQ),(c.kill S).kill S'=c.kill S2
 | .var cs=>by simp only [aQ.kill,Ej h]
 | .arr _ _ _ _=>rfl
theorem St.tu {S S' S2:Nat→Bool} (h:∀ o,S2 o=(S o||S' o)) (st:St):(st.kill S).kill S'=st.kill S2:=by
 simp only [St.kill,St.mk.injEq,true_and]
 refine ⟨funext fun t=>AV.tu h _,funext fun o=>?_⟩
 simp only [h o]
 cases S' o with
 |true=>cases S o<;>rfl
 |false=>
  cases S o with
  |true=>rfl
  |false=>
   simp only [Bool.or_false]
   cases st.ah o with
   |none=>rfl
   |some y=>simp only [Option.map_some,aQ.tu h]
theorem G7 {S:Nat→Bool} (h:∀ o,S o=false) (cs:List Cell):cs.map (Cell.kill S)=cs:=by
 rw [show Cell.kill S=id from funext (Cell.Bc h),List.map_id]
theorem SV.Bc {S:Nat→Bool} (h:∀ o,S o=false):∀ (c:SV),c.kill S=c
 | .one c=>by simp only [SV.kill,Cell.Bc h]
 | .agg cs=>by simp only [SV.kill,G7 h]
theorem AV.Bc {S:Nat→Bool} (h:∀ o,S o=false):∀ (c:AV),c.kill S=c
 | .undef=>rfl
 | .sv v=>by simp only [AV.kill,SV.Bc h]
 | .ng vs=>by simp only [AV.kill];rw [show SV.kill S=id from funext (SV.Bc h),List.map_id]
 | .cO o off=>by simp only [AV.kill,h o]
 | .oH o i off=>by simp only [AV.kill,h o]
 | .win o i off=>by simp only [AV.kill,h o]
 | .qR _ _ _ _=>rfl
 | .dG cs off=>by simp only [AV.kill,G7 h]
 | .fn g caps=>by simp only [AV.kill];rw [show List.map (Cell.kill S)=id from funext (G7 h),List.map_id]
theorem aQ.Bc {S:Nat→Bool} (h:∀ o,S o=false):∀ (c:aQ),c.kill S=c
 | .var cs=>by simp only [aQ.kill,G7 h]
 | .arr _ _ _ _=>rfl
theorem St.Bc {S:Nat→Bool} (h:∀ o,S o=false) (st:St):st.kill S=st:=by
 cases st with
 |mk n t o=>
  simp only [St.kill,St.mk.injEq,true_and]
  refine ⟨funext fun q=>AV.Bc h _,funext fun q=>?_⟩
  simp only [h q]
  cases o q with
  |none=>rfl
  |some y=>simp only [Option.map_some,aQ.Bc h]
theorem mP (l:List Nat) (st:St):vU l st=st.kill (bf l):=by
 cases l with
 |nil=>exact (St.Bc (fun _=>rfl) st).symm
 |cons=>rfl
theorem Rel.vU (h:Rel w0 M T γ st a w) (l:List Nat):Rel w0 M T γ (vU l st) a w:=by
 rw [mP];exact h.kill _
theorem Cell.wV {X:V} {S:Nat→Bool} (h:∀ o,S o=true→X.ah o=none):∀ (c:Cell) (v:Value),bC X c v→c.kill S=c
 | .int _ _,_,_| .bool _,_,_| .str _,_,_| .nil,_,_| .sl _ _ _ _,_,_| .junk,_,_=>rfl
 | .ref o,v,⟨⟨e,r,l,fr,ho⟩,_⟩=>by
   simp only [Cell.kill]
   cases hs:S o with
   |false=>rfl
   |true=>rw [h o hs] at ho;cases ho
theorem Bd {X:V} {S:Nat→Bool} (h:∀ o,S o=true→X.ah o=none):∀ (cs:List Cell) (vs:List Value),aj X cs vs→cs.map (Cell.kill S)=cs
 |[],[],_=>rfl
 |c::cs,v::vs,H=>by rw [List.map_cons,Cell.wV h c v H.1,Bd h cs vs H.2]
 |[],_::_,H|_::_,[],H=>by cases H
theorem SV.wV {X:V} {S:Nat→Bool} (h:∀ o,S o=true→X.ah o=none):∀ (c:SV) (v:Value),eG X c v→c.kill S=c
 | .one c,v,H=>by rw [SV.kill,Cell.wV h c v H]
 | .agg cs,v,⟨vs,_,H⟩=>by rw [SV.kill,Bd h cs _ H]
theorem Xm {X:V} {S:Nat→Bool} (h:∀ o,S o=true→X.ah o=none):∀ (cs:List SV) (vs:List Value),eH X cs vs→cs.map (SV.kill S)=cs
 |[],[],_=>rfl
 |c::cs,v::vs,H=>by rw [List.map_cons,SV.wV h c v H.1,Xm h cs vs H.2]
 |[],_::_,H|_::_,[],H=>by cases H
theorem Vl {X:V} {S:Nat→Bool} (h:∀ o,S o=true→X.ah o=none):∀ (l:List (List Cell)) (us:List Value),fP X l us→l.map (List.map (Cell.kill S))=l
 |[],[],_=>rfl
 |cs::l,u::us,⟨⟨b,_,arr,t,fz,_,_,H⟩,H2⟩=>by rw [List.map_cons,Bd h cs _ H,Vl h l us H2]
 |[],_::_,H|_::_,[],H=>by cases H
theorem AV.wV {X:V} {S:Nat→Bool} (h:∀ o,S o=true→X.ah o=none):∀ (c:AV) (v:Value),bI X c v→c.kill S=c
 | .undef,_,_=>rfl
 | .sv x,v,H=>by rw [AV.kill,SV.wV h x v H]
 | .ng xs,v,⟨vs,_,H⟩=>by rw [AV.kill,Xm h xs _ H]
 | .cO o off,v,⟨b,cs,ho,_⟩=>by
   simp only [AV.kill]
   cases hs:S o with
   |false=>rfl
   |true=>rw [h o hs] at ho;cases ho
 | .oH o i off,v,⟨b,n,cap,e,r,l,fr,ho,_⟩=>by
   simp only [AV.kill]
   cases hs:S o with
   |false=>rfl
   |true=>rw [h o hs] at ho;cases ho
 | .win o i off,v,⟨b,n,cap,e,r,l,fr,ho,_⟩=>by
   simp only [AV.kill]
   cases hs:S o with
   |false=>rfl
   |true=>rw [h o hs] at ho;cases ho
 | .qR _ _ _ _,_,_=>rfl
 | .dG cs off,v,⟨b,_,arr,t,fz,_,_,H⟩=>by rw [AV.kill,Bd h cs _ H]
 | .fn f caps,v,⟨us,_,H⟩=>by rw [AV.kill,Vl h caps _ H]
theorem aQ.wV {X:V} {S:Nat→Bool} (h:∀ o,S o=true→X.ah o=none) {o:Nat}:∀ (x:aQ),cZ X o x→x.kill S=x
 | .var cs,⟨b,ar,t,_,_,H⟩=>by rw [aQ.kill,Bd h cs _ H]
 | .arr _ _ _ _,_=>rfl
theorem Cell.vX {S S' H:Nat→Bool} (h1:∀ o,S o=true→S' o=true) (h2:∀ o,S' o=true→S o=true∨H o=true):∀ (c:Cell),(c.kill S).touch H=false→c.kill S'=c.kill S
 | .int _ _,_| .bool _,_| .str _,_| .nil,_| .sl _ _ _ _,_| .junk,_=>rfl
 | .ref o,ht=>by
   simp only [Cell.kill] at ht ⊢
   cases hs:S o with
   |true=>rw [h1 o hs]
   |false=>
    rw [hs] at ht
    have ht:H o=false:=ht
    cases hs':S' o with
    |false=>rfl
    |true=>rcases h2 o hs' with g|g<;>simp_all
theorem wW {S S' H:Nat→Bool} (h1:∀ o,S o=true→S' o=true) (h2:∀ o,S' o=true→S o=true∨H o=true):∀ (cs:List Cell),(cs.map (Cell.kill S)).any (Cell.touch H)=false→cs.map (Cell.kill S')=cs.map (Cell.kill S)
 |[],_=>rfl
 |c::cs,ht=>by
  rw [List.map_cons,List.any_cons,Bool.or_eq_false_iff] at ht
  rw [List.map_cons,List.map_cons,Cell.vX h1 h2 c ht.1,wW h1 h2 cs ht.2]
theorem SV.vX {S S' H:Nat→Bool} (h1:∀ o,S o=true→S' o=true) (h2:∀ o,S' o=true→S o=true∨H o=true):∀ (c:SV),(c.kill S).touch H=false→c.kill S'=c.kill S
 | .one c,ht=>by simp only [SV.kill];rw [Cell.vX h1 h2 c ht]
 | .agg cs,ht=>by simp only [SV.kill];rw [wW h1 h2 cs ht]
theorem Rw {S S' H:Nat→Bool} (h1:∀ o,S o=true→S' o=true) (h2:∀ o,S' o=true→S o=true∨H o=true):∀ (cs:List SV),(cs.map (SV.kill S)).any (SV.touch H)=false→cs.map (SV.kill S')=cs.map (SV.kill S)
 |[],_=>rfl
 |c::cs,ht=>by
  rw [List.map_cons,List.any_cons,Bool.or_eq_false_iff] at ht
  rw [List.map_cons,List.map_cons,SV.vX h1 h2 c ht.1,Rw h1 h2 cs ht.2]
theorem PO {S S' H:Nat→Bool} (h1:∀ o,S o=true→S' o=true) (h2:∀ o,S' o=true→S o=true∨H o=true):∀ (l:List (List Cell)),((l.map (List.map (Cell.kill S))).any fun cs=>cs.any (Cell.touch H))=false→l.map (List.map (Cell.kill S'))=l.map (List.map (Cell.kill S))
 |[],_=>rfl
 |c::cs,ht=>by
  rw [List.map_cons,List.any_cons,Bool.or_eq_false_iff] at ht
  rw [List.map_cons,List.map_cons,wW h1 h2 c ht.1,PO h1 h2 cs ht.2]
theorem AV.vX {S S' H:Nat→Bool} (h1:∀ o,S o=true→S' o=true) (h2:∀ o,S' o=true→S o=true∨H o=true):∀ (c:AV),(c.kill S).touch H=false→c.kill S'=c.kill S
 | .undef,_=>rfl
 | .sv v,ht=>by simp only [AV.kill];rw [SV.vX h1 h2 v ht]
 | .ng vs,ht=>by simp only [AV.kill];rw [Rw h1 h2 vs ht]
 | .cO o off,ht=>by
   simp only [AV.kill] at ht ⊢
   cases hs:S o with
   |true=>rw [h1 o hs]
   |false=>
    rw [hs] at ht
    have ht:H o=false:=ht
    cases hs':S' o with
    |false=>rfl
    |true=>rcases h2 o hs' with g|g<;>simp_all
 | .oH o i off,ht=>by
   simp only [AV.kill] at ht ⊢
   cases hs:S o with
   |true=>rw [h1 o hs]
   |false=>
    rw [hs] at ht
    have ht:H o=false:=ht
    cases hs':S' o with
    |false=>rfl
    |true=>rcases h2 o hs' with g|g<;>simp_all
 | .win o i off,ht=>by
   simp only [AV.kill] at ht ⊢
   cases hs:S o with
   |true=>rw [h1 o hs]
   |false=>
    rw [hs] at ht
    have ht:H o=false:=ht
    cases hs':S' o with
    |false=>rfl
    |true=>rcases h2 o hs' with g|g<;>simp_all
 | .qR _ _ _ _,_=>rfl
 | .dG cs off,ht=>by simp only [AV.kill];rw [wW h1 h2 cs ht]
 | .fn g caps,ht=>by simp only [AV.kill];rw [PO h1 h2 caps ht]
theorem aQ.vX {S S' H:Nat→Bool} (h1:∀ o,S o=true→S' o=true) (h2:∀ o,S' o=true→S o=true∨H o=true):∀ (c:aQ),(c.kill S).touch H=false→c.kill S'=c.kill S
 | .var cs,ht=>by simp only [aQ.kill];rw [wW h1 h2 cs ht]
 | .arr _ _ _ _,_=>rfl
theorem alW {v s:St} {lv lp hd:List Nat} (h:v.more s) (h1:∀ o,bf lv o=true→bf lp o=true) (h2:∀ o,bf lp o=true→bf lv o=true∨bf hd o=true):
 ((vU lv v).adN hd).more (vU lp s):=by
 have hc:∀ (s:St),s.adN hd={n:=s.n,tmps:=(fun t=>match (s.tmps t).touch (bf hd) with|true=> .undef|false=>s.tmps t),ah:=(fun o=>match bf hd o with|true=>none|false=>match s.ah o with|some x=>(match x.touch (bf hd) with|true=>none|false=>some x)|none=>none)}:=by
  intro s
  cases hd with
  |cons=>rfl
  |nil=>
   have t0:∀ c:Cell,c.touch (bf [])=false:=fun c=>by cases c<;>rfl
   have t1:∀ cs:List Cell,cs.any (Cell.touch (bf []))=false:=fun cs=>by rw [List.any_eq_false];exact fun c _=>by rw [t0 c];simp
   have t2:∀ c:SV,c.touch (bf [])=false:=fun c=>by cases c with|one c=>exact t0 c|agg cs=>exact t1 cs
   have t3:∀ c:AV,c.touch (bf [])=false:=fun c=>by
    cases c with
    |sv v=>exact t2 v
    |ng vs=>show vs.any (SV.touch (bf []))=false;rw [List.any_eq_false];exact fun c _=>by rw [t2 c];simp
    |dG cs off=>exact t1 cs
    |fn g caps=>show (caps.any fun cs=>cs.any (Cell.touch (bf [])))=false;rw [List.any_eq_false];exact fun c _=>by rw [t1 c];simp
    |_=>rfl
   have t4:∀ c:aQ,c.touch (bf [])=false:=fun c=>by cases c with|var cs=>exact t1 cs|arr _ _ _ _=>rfl
   cases s with
   |mk n t o=>
    simp only [St.adN,St.mk.injEq,true_and]
    refine ⟨funext fun q=>?_,funext fun q=>?_⟩
    · rw [t3 (t q)]
    · show o q=(match o q with|some x=>(match x.touch (bf []) with|true=>none|false=>some x)|none=>none)
      cases o q with
      |none=>rfl
      |some y=>dsimp only;rw [t4 y]
 rw [hc,mP,mP]
 refine ⟨fun t=>?_,fun o y hy=>?_⟩
 · dsimp only [St.kill]
   cases ht:((v.tmps t).kill (bf lv)).touch (bf hd) with
   |true=>exact .inl rfl
   |false=>
    dsimp only
    rcases h.tmps t with e|e
    · rw [e];exact .inl rfl
    · rw [e];exact .inr (AV.vX h1 h2 _ ht)
 · dsimp only [St.kill] at hy ⊢
   split at hy
   · cases hy
   · next hh=>
     split at hy
     · next x hx=>
       split at hx
       · cases hx
       · next hl=>
         cases hvo:v.ah o with
         |none=>rw [hvo] at hx;cases hx
         |some y0=>
          rw [hvo] at hx
          cases hx
          split at hy
          · cases hy
          · next ht=>
            cases hy
            have hlp:bf lp o=false:=by
             cases hlp:bf lp o with
             |false=>rfl
             |true=>rcases h2 o hlp with g|g<;>simp_all
            rw [hlp,h.ah o _ hvo]
            simp only [Option.map_some,aQ.vX h1 h2 _ ht]
     · cases hy
theorem alX {base:St} {D U:List Nat} {path:List eU} {L L':Nat→Bool} {i:Nat} {x:eU} (hi:i<path.length) (hL:L i=false) (hL':L' i=true) (h:∀ j,j≠i→L' j=L j)
 (hf:Fits D U (pick (path.set i x) 0 L')) (hne:∀ y∈pick path 0 L,y.d≠x.d) (hu:x.u≠[]→∀ j y,i<j→L j=true→path[j]? =some y→y.u=[]):
 (((lS base (pick path 0 L)).adds x.u).adds x.δ).set x.d x.v=lS base (pick (path.set i x) 0 L')∧(∀ o,bf (nU (pick (path.set i x) 0 L')) o=(bf (nU (pick path 0 L)) o||bf x.k o)):=by
 have hsplit:path=path.take i++path[i]::path.drop (i+1):=by rw [List.getElem_cons_drop,List.take_append_drop]
 have hset:path.set i x=path.take i++x::path.drop (i+1):=by
  rw [List.set_eq_take_append_cons_drop,if_pos hi]
 have hlen:(path.take i).length=i:=by rw [List.length_take];omega
 have p1:pick path 0 L=pick (path.take i) 0 L++pick (path.drop (i+1)) (i+1) L:=by
  conv=>lhs;rw [hsplit]
  rw [Qm,hlen,Nat.zero_add,pick,hL]
 have aoT:∀ (l:List eU) (j:Nat),(∀ k,k<l.length→j+k≠i)→pick l j L'=pick l j L:=by
  intro l
  induction l with
  |nil=>intros;rfl
  |cons y l ih=>
   intro j hj
   rw [pick,pick,h j (by simpa using hj 0 (by simp)),ih (j+1) fun k hk=>by have:=hj (k+1) (by simpa using hk);omega]
 have p2:pick (path.set i x) 0 L'=pick (path.take i) 0 L++x::pick (path.drop (i+1)) (i+1) L:=by
  rw [hset,Qm,hlen,Nat.zero_add,pick,hL',aoT (path.take i) 0 fun k hk=>by omega,aoT (path.drop (i+1)) (i+1) fun k hk=>by omega]
 rw [p2] at hf
 rw [p1] at hne
 rw [p1,p2]
 refine ⟨?_,fun o=>?_⟩
 case refine_2=>
  rw [Bool.eq_iff_iff,Bool.or_eq_true,ou,ou,vV]
  constructor
  · rintro ⟨y,hy,ho⟩
    rcases List.mem_append.1 hy with h|h
    · exact .inl ⟨y,List.mem_append_left _ h,ho⟩
    · rcases List.mem_cons.1 h with rfl|h
      · exact .inr ho
      · exact .inl ⟨y,List.mem_append_right _ h,ho⟩
  · rintro (⟨y,hy,ho⟩|ho)
    · rcases List.mem_append.1 hy with h|h
      · exact ⟨y,List.mem_append_left _ h,ho⟩
      · exact ⟨y,List.mem_append_right _ (List.mem_cons_of_mem _ h),ho⟩
    · exact ⟨x,by simp,ho⟩
 refine akl hf hne fun hxu y hy=>?_
 obtain ⟨k,hk1,hk2⟩:=(lg _ _).1 hy
 rw [List.getElem?_drop] at hk2
 exact hu hxu (i+1+k) y (by omega) hk1 hk2
theorem alY {base:St} {D U:List Nat} {path:List eU} {L L':Nat→Bool} {i:Nat} {x:eU} (hi:i<path.length) (hL:L i=false) (hL':L' i=true) (h:∀ j,j≠i→L' j=L j)
 (hf:Fits D U (pick (path.set i x) 0 L')) (hne:∀ y∈pick path 0 L,y.d≠x.d) (hu:x.u≠[]→∀ j y,i<j→L j=true→path[j]? =some y→y.u=[])
 (hv:x.v.kill (bf (nU (pick (path.set i x) 0 L')))=x.v)
 (hxo:∀ o y,(look x.δ o=some y∨look x.u o=some y)→bf (nU (pick (path.set i x) 0 L')) o=false∧y.kill (bf (nU (pick (path.set i x) 0 L')))=y):
 (((vU x.k (after base path L)).adds x.u).adds x.δ).set x.d x.v=after base (path.set i x) L':=by
 obtain ⟨e1,e2⟩:=alX (base:=base) hi hL hL' h hf hne hu
 have e3:vU x.k (after base path L)=(lS base (pick path 0 L)).kill (bf (nU (pick (path.set i x) 0 L'))):=by
  unfold after
  rw [mP,mP]
  exact St.tu e2 _
 rw [e3]
 unfold after
 rw [mP,← e1]
 generalize bf (nU (pick (path.set i x) 0 L'))=S at hv hxo
 generalize lS base (pick path 0 L)=s
 have f1:∀ s:St,((s.adds x.u).adds x.δ)={s with ah:=((s.adds x.u).adds x.δ).ah}:=fun s=>by rw [Q7,Q7 s x.u]
 rw [f1 (s.kill S),f1 s]
 simp only [St.set,St.kill,St.mk.injEq,true_and]
 refine ⟨funext fun t=>?_,funext fun o=>?_⟩
 · cases Nat.beq t x.d with
   |true=>exact hv.symm
   |false=>rfl
 · rw [nG,nG,nG,nG]
   cases hδ:look x.δ o with
   |some y=>
    obtain ⟨g1,g2⟩:=hxo o y (.inl hδ)
    simp only [g1,Option.map_some,g2]
   |none=>
    cases hu:look x.u o with
    |some y=>
     obtain ⟨g1,g2⟩:=hxo o y (.inr hu)
     simp only [g1,Option.map_some,g2]
    |none=>rfl
theorem alZ {base:St} {path:List eU} {L:Nat→Bool} (hL:∀ i,L i=false):after base path L=base:=by
 unfold after
 rw [ahj path 0 L fun i _=>hL i]
 rfl
theorem an9 (h:Rel w0 M T γ st a w) (D:List Nat):Rel w0 M T γ (dJ D st) a w:=h.kill _
theorem ahm {D:List Nat} {o:Nat} (h:bf D (o / 64)=true):(dJ D st).ah o=none:=by simp [dJ,St.kill,h]
theorem al0 {R:Reg} {path:List eU} {L:Nat→Bool} {i:Nat} (hf:Fits R.D R.U (pick path 0 L)) (hsub:∀ j,(R.ms.getD i 0).testBit j=true→L j=true)
 (hidx:∀ k x,path[k]? =some x→idxOf R.D x.d 0=some k) (hi:L i=false) (hdown:∀ k,L k=true→(R.ms.getD k 0).testBit i=false)
 (heff:Gq R.ms R.E i=true→∀ j x,path[j]? =some x→x.u≠[]→L j=true→(R.ms.getD i 0).testBit j=true):
 ((match Gq R.ms R.E i with
   |true=>lS (dJ R.D st) (pick path 0 (R.ms.getD i 0).testBit)
   |false=>(lS (dJ R.D st) (pick path 0 (R.ms.getD i 0).testBit)).hide R.U).veil R i).more (lS (dJ R.D st) (pick path 0 L)):=by
 have hmem:∀ x∈pick path 0 (R.ms.getD i 0).testBit,x∈pick path 0 L:=fun x hx=>by
  obtain ⟨j,h1,h2⟩:=(lg _ _).1 hx
  rw [Nat.zero_add] at h1
  exact (lg _ _).2 ⟨j,by rw [Nat.zero_add];exact hsub j h1,h2⟩
 have ht:∀ t,abR R i t=false→Ak (pick path 0 L) t ((dJ R.D st).tmps t)=Ak (pick path 0 (R.ms.getD i 0).testBit) t ((dJ R.D st).tmps t):=by
  intro t hh
  by_cases he:∃ x∈pick path 0 (R.ms.getD i 0).testBit,x.d=t
  · obtain ⟨x,hx,rfl⟩:=he
    rw [PN _ hx fun y hy e=>hf.one x (hmem x hx) y (hmem y hy) e,PN _ (hmem x hx) fun y hy e=>hf.one x (hmem x hx) y hy e]
  · rw [TP (pick path 0 (R.ms.getD i 0).testBit) fun x hx e=>he ⟨x,hx,e⟩]
    refine TP _ fun x hx e=>?_
    obtain ⟨k,h1,h2⟩:=(lg _ _).1 hx
    rw [Nat.zero_add] at h1
    have hk:=hidx k x h2
    rw [e] at hk
    unfold abR at hh
    rw [hk] at hh
    simp only [Bool.not_eq_false',Bool.or_eq_true] at hh
    rcases hh with g|g|g
    · have:=Nat.eq_of_beq_eq_true g
      subst this
      rw [hi] at h1;cases h1
    · exact he ⟨x,(lg _ _).2 ⟨k,by rw [Nat.zero_add];exact g,h2⟩,e⟩
    · rw [hdown k h1] at g;cases g
 have hO:∀ o y,lookO (pick path 0 (R.ms.getD i 0).testBit) o ((dJ R.D st).ah o)=some y→lookO (pick path 0 L) o ((dJ R.D st).ah o)=some y:=by
  intro o y hy
  by_cases he:∃ x∈pick path 0 (R.ms.getD i 0).testBit,∃ z,look x.δ o=some z
  · obtain ⟨x,hx,z,hz⟩:=he
    have aoU:∀ w∈pick path 0 L,∀ z',look w.δ o=some z'→x=w:=fun w hw z' hz'=>
     hf.one x (hmem x hx) w hw ((vW (hf.new x (hmem x hx)) hz).symm.trans (vW (hf.new w hw) hz'))
    rw [Xl _ hx hz fun w hw z' hz'=>aoU w (hmem w hw) z' hz'] at hy
    rw [Xl _ (hmem x hx) hz aoU]
    exact hy
  · have hno:∀ x∈pick path 0 (R.ms.getD i 0).testBit,look x.δ o=none:=fun x hx=>by
     cases hl:look x.δ o with
     |none=>rfl
     |some z=>exact (he ⟨x,hx,z,hl⟩).elim
    rw [ML _ hno] at hy
    rw [ML,hy]
    intro x hx
    cases hl:look x.δ o with
    |none=>rfl
    |some z=>
     rw [ahm (by rw [vW (hf.new x hx) hl];exact hf.mem x hx)] at hy
     cases hy
 have hsame:∀ o y,oq (pick path 0 (R.ms.getD i 0).testBit) o=oq (pick path 0 L) o→(lS (dJ R.D st) (pick path 0 (R.ms.getD i 0).testBit)).ah o=some y→(lS (dJ R.D st) (pick path 0 L)).ah o=some y:=by
  intro o y he hy
  unfold lS at hy ⊢
  dsimp only at hy ⊢
  rw [he] at hy
  split at hy
  · next z hz=>exact hy
  · next hz=>exact hO o y hy
 have aoV:∀ s:St,(∀ t,s.tmps t=Ak (pick path 0 (R.ms.getD i 0).testBit) t ((dJ R.D st).tmps t))→(∀ o y,s.ah o=some y→(lS (dJ R.D st) (pick path 0 L)).ah o=some y)→(s.veil R i).more (lS (dJ R.D st) (pick path 0 L)):=by
  intro s h1 h2
  refine ⟨fun t=>?_,h2⟩
  show (match abR R i t with|true=>AV.undef|false=>s.tmps t)= .undef∨_=(match abR R i t with|true=>AV.undef|false=>s.tmps t)
  cases hh:abR R i t with
  |true=>exact .inl rfl
  |false=>right;dsimp only;rw [h1 t];exact ht t hh
 split
 · next hc=>
   refine aoV _ (fun t=>rfl) fun o y hy=>hsame o y ?_ hy
   refine aaX path 0 fun j x hj hu=>?_
   rw [Nat.zero_add]
   cases hL:L j with
   |true=>exact heff hc j x hj hu hL
   |false=>
    cases hm:(R.ms.getD i 0).testBit j with
    |false=>rfl
    |true=>rw [hsub j hm] at hL;cases hL
 · next hc=>
   refine aoV _ (fun t=>rfl) fun o y hy=>?_
   unfold St.hide at hy
   dsimp only at hy
   split at hy
   · cases hy
   · next hU=>
     refine hsame o y ?_ hy
     have nou:∀ x∈pick path 0 L,look x.u o=none:=fun x hx=>by
      cases hl:look x.u o with
      |none=>rfl
      |some z=>have:=(hf.upd x hx o z hl).1;rw [hU] at this;cases this
     rw [FD _ nou,FD _ fun x hx=>nou x (hmem x hx)]
theorem am7 (st:St) (U:List Nat) (S:Nat→Bool):(st.kill S).hide U=(st.hide U).kill S:=by
 simp only [St.hide,St.kill,St.mk.injEq,true_and]
 funext o
 cases bf U o<;>cases S o<;>rfl
theorem ahn (st:St) (R:Reg) (i:Nat) (S:Nat→Bool):(st.kill S).veil R i=(st.veil R i).kill S:=by
 simp only [St.veil,St.kill,St.mk.injEq,true_and,and_true]
 funext t
 cases abR R i t<;>rfl
theorem aje {ms:List Nat} {i e q:Nat} (Rx:e≠i) (h1:(ms.getD i 0).testBit e=false) (h2:(ms.getD e 0).testBit i=false):∀ (A:List (Nat×Nat)),JO A e q=true→bf (afS ms i A) q=true
 |[],h=>by cases h
 |(e',q')::r,h=>by
  rw [JO] at h
  rw [afS]
  cases hb:Nat.beq e' e&&Nat.beq q' q with
  |true=>
   rw [Bool.and_eq_true] at hb
   rw [Nat.eq_of_beq_eq_true hb.1,Nat.eq_of_beq_eq_true hb.2,h1,h2,Dv Rx]
   simp [bf,Nat.beq_refl]
  |false=>
   rw [hb] at h
   have ih:=aje Rx h1 h2 r h
   split
   · exact ih
   · rw [bf,ih];split<;>rfl
theorem akm {R:Reg} {path:List eU} {L:Nat→Bool} {i:Nat} (hf:Fits R.D R.U (pick path 0 L)) (hsub:∀ j,(R.ms.getD i 0).testBit j=true→L j=true)
 (hidx:∀ k x,path[k]? =some x→idxOf R.D x.d 0=some k) (hi:L i=false) (hdown:∀ k,L k=true→(R.ms.getD k 0).testBit i=false)
 (heff:Gq R.ms R.E i=true→∀ j x,path[j]? =some x→x.u≠[]→L j=true→(R.ms.getD i 0).testBit j=true)
 (hk:∀ e x,path[e]? =some x→L e=true→∀ q∈x.k,JO R.A e q=true):
 (viewAt R (dJ R.D st) path i).more (after (dJ R.D st) path L):=by
 have h0:=al0 (st:=st) hf hsub hidx hi hdown heff
 have e:viewAt R (dJ R.D st) path i=(vU (nU (pick path 0 (R.ms.getD i 0).testBit)) ((match Gq R.ms R.E i with
  |true=>lS (dJ R.D st) (pick path 0 (R.ms.getD i 0).testBit)
  |false=>(lS (dJ R.D st) (pick path 0 (R.ms.getD i 0).testBit)).hide R.U).veil R i)).adN (afS R.ms i R.A):=by
  unfold viewAt after
  rw [mP,mP]
  cases Gq R.ms R.E i
  · dsimp only;rw [am7,ahn]
  · dsimp only;rw [ahn]
 rw [e]
 refine alW h0 (fun o ho=>?_) fun o ho=>?_
 · obtain ⟨x,hx,hxo⟩:=(ou _).1 ho
   obtain ⟨j,h1,h2⟩:=(lg _ _).1 hx
   rw [Nat.zero_add] at h1
   exact (ou _).2 ⟨x,(lg _ _).2 ⟨j,by rw [Nat.zero_add];exact hsub j h1,h2⟩,hxo⟩
 · obtain ⟨x,hx,hxo⟩:=(ou _).1 ho
   obtain ⟨j,h1,h2⟩:=(lg _ _).1 hx
   rw [Nat.zero_add] at h1
   cases hb:(R.ms.getD i 0).testBit j with
   |true=>exact .inl ((ou _).2 ⟨x,(lg _ _).2 ⟨j,by rw [Nat.zero_add];exact hb,h2⟩,hxo⟩)
   |false=>exact .inr (aje (fun e=>by subst e;rw [hi] at h1;cases h1) hb (hdown j h1) R.A (hk j x h2 h1 o hxo))
theorem aho:∀ (l:List Nat) (j i d:Nat),nodup l=true→l[i]? =some d→idxOf l d j=some (j+i)
 |[],_,_,_,_,h=>by simp at h
 |x::r,j,0,d,_,h=>by
  simp at h;subst h
  rw [idxOf,Nat.beq_refl];rfl
 |x::r,j,i+1,d,hn,h=>by
  rw [nodup,Bool.and_eq_true] at hn
  have hne:Nat.beq d x=false:=by
   cases hb:Nat.beq d x with
   |false=>rfl
   |true=>
    have hx:=Nat.eq_of_beq_eq_true hb
    subst hx
    have:bf r d=true:=vV.2 (List.mem_of_getElem? (by simpa using h))
    rw [this] at hn;simp at hn
  rw [idxOf,hne,show j+(i+1)=j+1+i by omega]
  exact aho r (j+1) i d hn.2 (by simpa using h)
end Go.Fw
namespace Go.Fw
open Go
variable {P:Program} {w0:World} {M:Nat→Prop} {T:Ext} {γ γ':Nat→Value} {st s:St} {a:Act} {w w':World} {Θ:jC} {Γ:lF}
theorem Cell.Bf {S:Nat→Bool} (h:∀ o,S o=false):∀ (c:Cell),c.kill S=c
 | .ref o=>by simp only [Cell.kill,h o]
 | .int _ _| .bool _| .str _| .nil| .sl _ _ _ _| .junk=>rfl
theorem G8 {S:Nat→Bool} (h:∀ o,S o=false) (cs:List Cell):cs.map (Cell.kill S)=cs:=by
 rw [show Cell.kill S=id from funext (Cell.Bf h),List.map_id]
theorem SV.Bf {S:Nat→Bool} (h:∀ o,S o=false):∀ (c:SV),c.kill S=c
 | .one c=>by simp only [SV.kill,Cell.Bf h]
 | .agg cs=>by simp only [SV.kill,G8 h]
theorem AV.Bf {S:Nat→Bool} (h:∀ o,S o=false):∀ (c:AV),c.kill S=c
 | .undef=>rfl
 | .sv v=>by simp only [AV.kill,SV.Bf h]
 | .ng vs=>by simp only [AV.kill];rw [show SV.kill S=id from funext (SV.Bf h),List.map_id]
 | .cO o off=>by simp only [AV.kill,h o]
 | .oH o i off=>by simp only [AV.kill,h o]
 | .win o i off=>by simp only [AV.kill,h o]
 | .qR _ _ _ _=>rfl
 | .dG cs off=>by simp only [AV.kill,G8 h]
 | .fn f caps=>by simp only [AV.kill];rw [show List.map (Cell.kill S)=id from funext (G8 h),List.map_id]
theorem aQ.Bf {S:Nat→Bool} (h:∀ o,S o=false):∀ (c:aQ),c.kill S=c
 | .var cs=>by simp only [aQ.kill,G8 h]
 | .arr _ _ _ _=>rfl
theorem St.Bf {S:Nat→Bool} (h:∀ o,S o=false) (st:St):st.kill S=st:=by
 unfold St.kill
 rw [show (fun t=>(st.tmps t).kill S)=st.tmps from funext fun t=>AV.Bf h _]
 have:(fun o=>match S o with|true=>none|false=>(st.ah o).map (aQ.kill S))=st.ah:=by
  funext o
  rw [h o,show aQ.kill S=id from funext (aQ.Bf h)]
  cases st.ah o<;>rfl
 exact congrArg (fun f=>({n:=st.n,tmps:=st.tmps,ah:=f}:St)) this
theorem al1:∀ (c:Cell),c.refs=[]→c.view s=c.view st
 | .int _ _,_| .bool _,_| .str _,_| .nil,_| .sl _ _ _ _,_| .junk,_=>rfl
theorem aa0:∀ (cs:List Cell),cs.flatMap Cell.refs=[]→cs.map (Cell.view s)=cs.map (Cell.view st)
 |[],_=>rfl
 |c::cs,h=>by
  rw [List.flatMap_cons,List.append_eq_nil_iff] at h
  rw [List.map_cons,List.map_cons,al1 c h.1,aa0 cs h.2]
theorem Xn (h:st.more s) {m:Mode} {x:AV} {r:Arg×Option Nat} (hr:qI st m x=some r):qI s m x=some r:=by
 unfold qI at hr ⊢
 cases m with
 |val=>
  dsimp only at hr ⊢
  split at hr
  · next a hx ha=>rw [hx,DU h _ _ ha];exact hr
  · cases hr
 |own=>
  dsimp only at hr ⊢
  split at hr
  · split at hr
    · next ho=>rw [h.ah _ _ ho];exact hr
    · cases hr
  · cases hr
 |ptr=>
  dsimp only at hr ⊢
  split at hr
  · split at hr
    · next hb ho=>
      split at hr
      · next hn=>rw [hb,h.ah _ _ ho];dsimp only;rw [hn,aa0 (s:=s) (st:=st) _ hn];exact hr
      · cases hr
    · cases hr
  · cases hr
theorem Vm {m:Mode} {x:AV} {r:Arg×Option Nat} (hr:qI st m x=some r):x≠ .undef:=by
 rintro rfl
 cases m<;>simp [qI,qw] at hr
theorem I7 (h:st.more s):∀ (os:List (Option Nat)) (aZ:List Eff) (δ:List (Nat×aQ)),oh st os aZ=some δ→oh s os aZ=some δ
 |[],_,_,hb=>by unfold oh at hb ⊢;exact hb
 |none::os,aZ,δ,hb=>by rw [oh] at hb ⊢;exact I7 h os _ δ hb
 |some o::os,aZ,δ,hb=>by
  unfold oh at hb ⊢
  split at hb
  · next h1 h2=>rw [h1,I7 h _ _ _ h2];dsimp only;exact hb
  · next h1 h2 h3=>rw [h1,h.ah _ _ h2,I7 h _ _ _ h3];dsimp only;exact hb
  · next h1 h2 h3=>rw [h1,h.ah _ _ h2,I7 h _ _ _ h3];dsimp only;exact hb
  · cases hb
theorem Qn:∀ (os:List (Option Nat)) (aZ:List Eff),Ru os aZ=true→∀ p,iQ os aZ p=false
 |[],_,_,_=>rfl
 |none::os,aZ,h,p=>by rw [Ru] at h;rw [iQ];exact Qn os _ h p
 |some o::os,aZ,h,p=>by
  unfold Ru at h
  unfold iQ
  split at h
  · next cs he=>rw [he];exact Qn os _ h p
  · cases h
theorem ahO (h:st.more s) {m:Mode} {x:AV} {r:Arg×Option Nat} (hr:uP st m x=some r):uP s m x=some r:=by
 cases m with
 |val=>
  simp only [uP] at hr ⊢
  split at hr
  · next a ha=>rw [DU h _ _ ha];exact hr
  · cases hr
 |own=>exact Xn h (m:= .own) hr
 |ptr=>exact Xn h (m:= .ptr) hr
theorem afT {m:Mode} {x:AV} {r:Arg×Option Nat} (hr:uP st m x=some r):x≠ .undef:=by
 cases m with
 |val=>rintro rfl;simp [uP,qw] at hr
 |own=>exact Vm (m:= .own) hr
 |ptr=>exact Vm (m:= .ptr) hr
theorem aa1 (h:st.more s):∀ (ms:List Mode) (xs:List AV) (r:List Arg×List (Option Nat)),zk st ms xs=some r→zk s ms xs=some r
 |_,[],r,hr=>by unfold zk at hr ⊢;exact hr
 |ms,x::xs,r,hr=>by
  unfold zk at hr ⊢
  split at hr
  · next h1 h2=>rw [ahO h h1,aa1 h _ _ _ h2];exact hr
  · cases hr
theorem Xo:∀ (ms:List Mode) (xs:List AV) (r:List Arg×List (Option Nat)),zk st ms xs=some r→∀ x∈xs,x≠ .undef
 |_,[],_,_,x,hx=>by cases hx
 |ms,x::xs,r,hr,y,hy=>by
  unfold zk at hr
  split at hr
  · next h1 h2=>
    rcases List.mem_cons.1 hy with rfl|hy
    · exact afT h1
    · exact Xo _ _ _ h2 y hy
  · cases hr
theorem al2 {xs:List AV} (h:II xs=true):yg xs=[]:=by
 unfold II at h
 split at h
 · next h0=>exact h0
 · cases h
theorem Dx:∀ (ms:List Mode) (xs:List AV) (r:List Arg×List (Option Nat)),yg (Gj ms xs)=[]→zk st ms xs=some r→hands st ms xs=some r
 |_,[],r,_,hr=>by unfold zk at hr;unfold hands;exact hr
 |ms,x::xs,r,hn,hr=>by
  unfold zk at hr
  split at hr
  · next a o as os h1 h2=>
    have key:hands st ms.tail xs=some (as,os)∧qI st (ms.headD .val) x=some (a,o):=by
     cases ms with
     |nil=>
      have hn':x.refs++yg xs=[]:=hn
      rw [List.append_eq_nil_iff] at hn'
      refine ⟨Dx [] xs _ (by cases xs<;>exact hn'.2) h2,?_⟩
      have h1:uP st .val x=some (a,o):=h1
      simp only [uP] at h1
      show qI st .val x=_
      simp only [qI,hn'.1]
      split at h1
      · next b hb=>rw [hb];exact h1
      · cases h1
     |cons m ms=>
      cases m with
      |val=>
       have hn':x.refs++yg (Gj ms xs)=[]:=hn
       rw [List.append_eq_nil_iff] at hn'
       refine ⟨Dx ms xs _ hn'.2 h2,?_⟩
       have h1:uP st .val x=some (a,o):=h1
       simp only [uP] at h1
       show qI st .val x=_
       simp only [qI,hn'.1]
       split at h1
       · next b hb=>rw [hb];exact h1
       · cases h1
      |own=>exact ⟨Dx ms xs _ hn h2,h1⟩
      |ptr=>exact ⟨Dx ms xs _ hn h2,h1⟩
    unfold hands
    rw [key.1,key.2]
    exact hr
  · cases hr
theorem ahP {m:Mode} {x:AV} {a:Arg} {o:Option Nat} (h:uP st m x=some (a,o)):Ie false st x a o:=by
 have weak:Ie true st x a o→Ie false st x a o:=fun h=>h.imp (fun ⟨h1,_,h3⟩=>⟨h1,(fun e=>by cases e),h3⟩) id
 cases m with
 |val=>
  simp only [uP] at h
  split at h
  · next b hb=>cases h;exact .inl ⟨rfl,(fun e=>by cases e),hb⟩
  · cases h
 |own=>exact weak (NR (m:= .own) h)
 |ptr=>exact weak (NR (m:= .ptr) h)
theorem aa2:∀ (ms:List Mode) (xs:List AV) (as:List Arg) (os:List (Option Nat)),zk st ms xs=some (as,os)→sW false st xs as os
 |_,[],as,os,h=>by unfold zk at h;cases h;trivial
 |ms,x::xs,as,os,h=>by
  unfold zk at h
  split at h
  · next a o as' os' h1 h2=>cases h;exact ⟨ahP h1,aa2 ms.tail xs as' os' h2⟩
  · cases h
theorem ajf {G:kC} (hE:uG P G Θ Γ w0 M) (h:Rel w0 M T γ s a w) (hm:st.more s) (o:Oper) {D U:List Nat} {d:Nat} {p:Prop} {ρ:KZ} {os:List (Option Nat)×Bool}
 (hc:Rt Γ st o.op=some (p,ρ,os)) (hp:p) (hd:∀ q,q / 64=d→s.ah q=none) (hch:∀ t,ρ.R t→∃ r,I5 D U d st os (ρ.out t) (ρ.aZ t)=some r) {next:Act→World→Prop} {Q:Exit→Act→World→Prop}
 (hn:∀ t v υ δ u γ' w',ρ.R t→I5 D U d st os (ρ.out t) (ρ.aZ t)=some (v,υ,δ)→Rel w0 M T γ' ((s.adds υ).adds δ) a w'→bI (ay w0 T γ' ((s.adds υ).adds δ) w') v u→next (a.put o.dst u) w'):o.wp P a w next Q:=by
 unfold Rt at hc
 split at hc
 case h_2=>cases hc
 next f args qN hop=>
 split at hc
 case h_2=>cases hc
 next ms con hcon=>
 split at hc
 case h_2=>cases hc
 next vs os' WY=>
 split at hc
 case h_2=>cases hc
 next hno=>
 split at hc
 case h_2=>cases hc
 next q ρ' hq=>
 cases hc
 have hand:handed s args.toList []=handed st args.toList []:=Qk hm [] _ (Xo _ _ _ WY)
 have afU:=aa1 hm _ _ _ WY
 rw [← hand] at afU hno hch hn
 obtain ⟨hok,hcall⟩:=hE.aif f ms con hcon
 have hv:bI (ay w0 T γ s w) (.fn f []) (a.eval (.func f)):=jd h (.func f)
 obtain ⟨us,hvx,hkx⟩:=hv
 unfold Oper.wp
 rw [Px hop hvx hcall,Oper.upon_enter]
 have hxs:pz (ay w0 T γ s w) (handed s args.toList []) (args.map a.eval++us).toList:=by
  rw [Array.toList_append,Array.toList_map]
  exact IV h hkx args.toList
 have hk:(d*64+1)%64=1:=by omega
 have hspec:∀ t,ρ.R t→∃ υ,AX os'=true∧KA (ρ.aZ t) ((ρ.out t).take (d*64+1)).2=true∧oh s os' (ρ.aZ t)=some υ∧s.kill (iQ os' (ρ.aZ t))=s∧jU s ((ρ.out t).take (d*64+1)).2=true∧
  (!(!(II (Gj ms (handed s args.toList []))))||((ρ.out t).made&&NS (ρ.aZ t)))=true∧
  I5 D U d st (os',!(II (Gj ms (handed s args.toList [])))) (ρ.out t) (ρ.aZ t)=some (((ρ.out t).take (d*64+1)).1,υ,((ρ.out t).take (d*64+1)).2):=by
  intro t ht
  obtain ⟨r,hr⟩:=hch t ht
  have hr0:=hr
  unfold I5 at hr
  split at hr
  · next υ hnd hb=>
    rw [Bool.and_eq_true,Bool.and_eq_true,Bool.and_eq_true,Bool.and_eq_true] at hnd
    split at hr
    · cases hr
      refine ⟨υ,hnd.1,hnd.2.1,I7 hm _ _ _ hb,St.Bf (Qn _ _ hnd.2.2.1) s,?_,hnd.2.2.2.2,hr0⟩
      refine List.all_eq_true.2 fun z hz=>?_
      rw [hd z.1 (Nat.eq_of_beq_eq_true (List.all_eq_true.1 hnd.2.2.2.1 z hz))]
      rfl
    · cases hr
  · cases hr
 have hpre:∀ t,ρ.R t→∃ δ,oh s os' (ρ.aZ t)=some δ∧jU (s.kill (iQ os' (ρ.aZ t))) ((ρ.out t).take (d*64+1)).2=true∧KA (ρ.aZ t) ((ρ.out t).take (d*64+1)).2=true:=fun t ht=>by
  obtain ⟨υ,_,g1,g2,g3,g4,_,_⟩:=hspec t ht
  exact ⟨υ,g2,by rw [g3];exact g4,g1⟩
 obtain ⟨t0,ht0⟩:=(hok vs _ ρ hq hp).1
 obtain ⟨_,hnd,_⟩:=hspec t0 ht0
 have apZ:Calls P f (args.map a.eval++us) w fun e w'=>∃ t δ,ρ.R t∧oh s os' (ρ.aZ t)=some δ∧∃ v γ',e= .returned v∧
  Rel w0 M T γ' (((s.kill (iQ os' (ρ.aZ t))).adds δ).adds ((ρ.out t).take (d*64+1)).2) a w'∧bI (ay w0 T γ' (((s.kill (iQ os' (ρ.aZ t))).adds δ).adds ((ρ.out t).take (d*64+1)).2) w') ((ρ.out t).take (d*64+1)).1 v:=by
  cases hnr:II (Gj ms (handed s args.toList [])) with
  |true=>exact h.akN hE hxs (TA ms _ vs os' (Dx ms _ _ (al2 hnr) afU)) hnd hk hok hq hp hpre
  |false=>
   rw [hnr] at hno
   refine h.aiO hE hxs (aa2 ms _ vs os' afU) hnd hk hok hq hp (fun q e r l he=>?_) (fun t ht=>?_) hpre
   · unfold dW at he
     split at he
     · next e' r' l' hb=>
       have:=List.all_eq_true.1 hno _ (List.mem_of_getElem? hb)
       cases this
     · split at he<;>cases he
     · cases he
   · obtain ⟨_,_,_,_,_,_,g,_⟩:=hspec t ht
     rw [hnr] at g
     simpa using g
 refine apZ.mono ?_
 rintro e w' ⟨t,δ,ht,hb,u,γ',rfl,g1,g2⟩
 obtain ⟨υ,_,_,k2,k3,_,_,k5⟩:=hspec t ht
 have hδ:υ=δ:=Option.some.inj (k2.symm.trans hb)
 subst hδ
 rw [k3] at g1 g2
 exact hn t _ _ _ u γ' w' ht k5 g1 g2
theorem EK {ops:Array Oper} {listed:Array Bool} {i:Nat}:i∈Region.ready .any ops listed↔
 ∃ o,ops[i]? =some o∧listed.getD i true=false∧∀ e∈o.after,Region.binds .any e=true→listed.getD e.on false=true:=by
 rw [mem_ready]
 constructor
 · rintro ⟨h1,o,h2,h3⟩;exact ⟨o,h2,h1,h3⟩
 · rintro ⟨o,h2,h1,h3⟩;exact ⟨h1,o,h2,h3⟩
theorem Ih {listed:Array Bool} {i:Nat} (hi:i<listed.size):listed.getD i true=listed.getD i false:=by
 simp [Array.getD,hi]
theorem apn (d:Nat):(d*64+1) / 64=d:=by omega
theorem ahp {o:Op} (h:Ba o=true):Am Γ o=true:=by
 unfold Ba at h
 split at h
 · rfl
 · cases h
theorem Rel.ap0 (h:Rel w0 M T γ st a w) (d:Nat) (hd:st.n≤d) (v:AV) (hv:v= .ng []):Rel w0 M T γ (st.set d v) (a.put none undef) w:=by
 refine ⟨h.mT,h.defers,h.size,h.os,h.tape,h.output,h.grow,h.kept,fun t=>?_,h.ah,h.lt,h.sep,h.pin⟩
 show bI _ (match Nat.beq t d with|true=>v|false=>st.tmps t) (a.tmps.getD t undef)
 cases hb:Nat.beq t d with
 |false=>exact h.tmps t
 |true=>
  have e:=Nat.eq_of_beq_eq_true hb
  have hs:=h.size
  have:a.tmps.getD t undef=undef:=by simp [Array.getD,show ¬ t<a.tmps.size by omega]
  rw [this,hv]
  exact ⟨#[],rfl,trivial⟩
theorem afV {G:kC} (hE:uG P G Θ Γ w0 M) {s:St} (h:Rel w0 M T γ s a w) (hm:st.more s) (o:Oper) {υ:List (Nat×aQ)} (hc:N8 Θ st o.op=some υ) {next:Act→World→Prop} {Q:Exit→Act→World→Prop}
 (hn:∀ γ' w',Rel w0 M T γ' ((s.adds υ).adds []) a w'→next (a.put o.dst undef) w'):o.wp P a w next Q:=by
 unfold N8 at hc
 split at hc
 case h_2=>cases hc
 next t p x hop=>
 split at hc
 case h_2=>cases hc
 next v ti q off hv ht hp=>
 split at hc
 case h_2=>cases hc
 next cs hlen ho=>
 split at hc
 case h_2=>cases hc
 next Tz=>
 cases hc
 have hs:store s (.cO q off) v=some (True,s.add q (.var (splice cs off v.cells))):=by
  unfold store
  simp only [hm.ah q _ ho,Tz]
 have hpv:=jd h p
 rw [dD hm hp (by simp)] at hpv
 have hxv:=jd h x
 rw [dD hm hv (by simp)] at hxv
 obtain ⟨w',h1,h2⟩:=ag5 hE.types h ht hs trivial hpv hxv (Nat.eq_of_beq_eq_true hlen)
 exact Oper.wp_skip (w':=w') (by simp [execOp,hop,h1]) (hn γ w' h2)
theorem Cell.mG {S:Nat→Bool} (st:St):∀ (c:Cell),c.kill S=c→c.freeze st S=c
 | .ref o,h=>by
   simp only [Cell.kill] at h
   simp only [Cell.freeze]
   cases hs:S o with
   |true=>rw [hs] at h;cases h
   |false=>rfl
 | .int _ _,_| .bool _,_| .str _,_| .nil,_| .sl _ _ _ _,_| .junk,_=>rfl
theorem qB {S:Nat→Bool} (st:St):∀ (cs:List Cell),cs.map (Cell.kill S)=cs→cs.map (Cell.freeze st S)=cs
 |[],_=>rfl
 |c::cs,h=>by
  rw [List.map_cons,List.cons.injEq] at h
  rw [List.map_cons,Cell.mG st c h.1,qB st cs h.2]
theorem SV.mG {S:Nat→Bool} (st:St):∀ (c:SV),c.kill S=c→c.freeze st S=c
 | .one c,h=>by
   simp only [SV.kill,SV.one.injEq] at h
   simp only [SV.freeze,Cell.mG st c h]
 | .agg cs,h=>by
   simp only [SV.kill,SV.agg.injEq] at h
   simp only [SV.freeze,qB st cs h]
theorem KI {S:Nat→Bool} (st:St):∀ (cs:List SV),cs.map (SV.kill S)=cs→cs.map (SV.freeze st S)=cs
 |[],_=>rfl
 |c::cs,h=>by
  rw [List.map_cons,List.cons.injEq] at h
  rw [List.map_cons,SV.mG st c h.1,KI st cs h.2]
theorem Jw {S:Nat→Bool} (st:St):∀ (l:List (List Cell)),l.map (List.map (Cell.kill S))=l→l.map (List.map (Cell.freeze st S))=l
 |[],_=>rfl
 |c::cs,h=>by
  rw [List.map_cons,List.cons.injEq] at h
  rw [List.map_cons,qB st c h.1,Jw st cs h.2]
theorem AV.mG {S:Nat→Bool} (st:St):∀ (c:AV),c.kill S=c→c.freeze st S=c
 | .undef,_=>rfl
 | .sv v,h=>by
   simp only [AV.kill,AV.sv.injEq] at h
   simp only [AV.freeze,SV.mG st v h]
 | .ng vs,h=>by
   simp only [AV.kill,AV.ng.injEq] at h
   simp only [AV.freeze,KI st vs h]
 | .cO o off,h=>by
   simp only [AV.kill] at h
   simp only [AV.freeze]
   cases hs:S o with
   |true=>rw [hs] at h;cases h
   |false=>rfl
 | .oH o i off,h=>by
   simp only [AV.kill] at h
   simp only [AV.freeze]
   cases hs:S o with
   |true=>rw [hs] at h;cases h
   |false=>rfl
 | .win o i off,h=>by
   simp only [AV.kill] at h
   simp only [AV.freeze]
   cases hs:S o with
   |true=>rw [hs] at h;cases h
   |false=>rfl
 | .qR _ _ _ _,_=>rfl
 | .dG cs off,h=>by
   simp only [AV.kill,AV.dG.injEq] at h
   simp only [AV.freeze,qB st cs h.1]
 | .fn f caps,h=>by
   simp only [AV.kill,AV.fn.injEq] at h
   simp only [AV.freeze,Jw st caps h.2]
theorem aQ.mG {S:Nat→Bool} (st:St):∀ (c:aQ),c.kill S=c→c.freeze st S=c
 | .var cs,h=>by
   simp only [aQ.kill,aQ.var.injEq] at h
   simp only [aQ.freeze,qB st cs h]
 | .arr _ _ _ _,_=>rfl
theorem aoa {s:St} {γ0:Nat→Value} {w1:World} {a1:Act} (h0:Rel w0 M T γ0 s a1 w1) {q:Nat} (hq:s.ah q=none) {e:TypeId} {r:aK} {l:List r.den} {fr:Bool} {u:Value}
 (h:Rel w0 M T γ (s.adds [(q, .arr e r l fr)]) a w) (hv:bI (ay w0 T γ (s.adds [(q, .arr e r l fr)]) w) (.sv (.one (.ref q))) u):
 Rel w0 M T γ s a w∧bI (ay w0 T γ s w) (.sv (.one (.sl e r l fr))) u:=by
 have hS:∀ o,Nat.beq q o=true→s.ah o=none:=fun o ho=>by rw [← Nat.eq_of_beq_eq_true ho];exact hq
 have nT:(s.adds [(q, .arr e r l fr)]).ah q=some (.arr e r l fr):=by
  show (match Nat.beq q q with|true=>some _|false=>_)=_
  rw [Nat.beq_refl]
 have hne:∀ o,Nat.beq q o=false→(s.adds [(q, .arr e r l fr)]).ah o=s.ah o:=fun o ho=>by
  show (match Nat.beq o q with|true=>some _|false=>_)=_
  cases hb:Nat.beq o q with
  |false=>rfl
  |true=>rw [Nat.eq_of_beq_eq_true hb,Nat.beq_refl] at ho;cases ho
 have hs:(s.adds [(q, .arr e r l fr)]).freeze (Nat.beq q)=s:=by
  have ht:((s.adds [(q, .arr e r l fr)]).freeze (Nat.beq q)).tmps=s.tmps:=by
   funext t
   exact AV.mG _ _ (AV.wV hS _ _ (h0.tmps t))
  have ho:((s.adds [(q, .arr e r l fr)]).freeze (Nat.beq q)).ah=s.ah:=by
   funext o
   simp only [St.freeze]
   cases hb:Nat.beq q o with
   |true=>simp only [hS o hb]
   |false=>
    simp only [hne o hb]
    cases hx:s.ah o with
    |none=>rfl
    |some x=>simp only [Option.map_some,aQ.mG _ x (aQ.wV hS x (h0.ah o x hx))]
  show (⟨s.n,((s.adds [(q, .arr e r l fr)]).freeze (Nat.beq q)).tmps,((s.adds [(q, .arr e r l fr)]).freeze (Nat.beq q)).ah⟩:St)=⟨s.n,s.tmps,s.ah⟩
  rw [ht,ho]
 have h1:=h.freeze (S:=Nat.beq q)
 have h2:=bI.freeze (S:=Nat.beq q) h _ _ hv
 rw [hs] at h1 h2
 refine ⟨h1,?_⟩
 simp only [AV.freeze,SV.freeze,Cell.freeze,Nat.beq_refl,nT] at h2
 exact h2
structure Way (R:Reg) (ops:Array Oper) (t0:Nat) (path:List eU):Prop where
 len:path.length=t0
 dst:∀ (i:Nat) (o:Oper) (x:eU),ops[i]? =some o→path[i]? =some x→vC R.n i o=some x.d
 aob:∀ x∈path,bf R.D x.d=true
 apart:∀ (i j:Nat) (x y:eU),path[i]? =some x→path[j]? =some y→x.d=y.d→i=j
 idx:∀ (i:Nat) (x:eU),path[i]? =some x→idxOf R.D x.d 0=some i
theorem uI.fit {R:Reg} {base:St} {path:List eU} {i:Nat} {o:Oper} {x:eU} (h:uI Θ Γ R base path i o x):
 FC x.d x.δ=true∧(∀ q y,look x.u q=some y→bf R.U q=true∧bf R.D (q / 64)=false)∧(x.u≠[]→Am Γ o.op=true)∧∀ q∈x.k,JO R.A i q=true∧bf R.D (q / 64)=true:=by
 obtain ⟨_,_,h3⟩:=h
 rcases h3 with ⟨_,⟨_,_,p,v,δ,_,_,hn,hx⟩|⟨_,_,p,q,y,_,_,⟨h1,h2,h3⟩,hx⟩|⟨he,_,υ,_,hin,hx⟩|⟨⟨he,_⟩,hk,p,ρ,os,t,_,_,_,_,hres⟩⟩|⟨_,hx⟩
 · obtain ⟨l1,l2,l3,l4⟩:=qO R.F ⟨x.d,v,[],δ,[]⟩
   rw [← hx] at l2 l3 l4
   exact ⟨List.all_eq_true.2 fun y hy=>List.all_eq_true.1 hn y (l4 y hy),(fun q y hy=>by rw [l2] at hy;cases hy),(fun hne=>(hne l2).elim),fun q hq=>by rw [l3] at hq;cases hq⟩
 · obtain ⟨l1,l2,l3,l4⟩:=qO R.F ⟨x.d, .sv (.one (.ref (x.d*64+1))),[],[(x.d*64+1,y)],[q]⟩
   rw [← hx] at l2 l3 l4
   refine ⟨List.all_eq_true.2 fun z hz=>?_,(fun q y hy=>by rw [l2] at hy;cases hy),(fun hne=>(hne l2).elim),fun r hr=>?_⟩
   · have:=l4 z hz
     have:z=(x.d*64+1,y):=by simpa using this
     rw [this]
     show Nat.beq ((x.d*64+1) / 64) x.d=true
     rw [show (x.d*64+1) / 64=x.d by omega,Nat.beq_refl]
   · rw [l3] at hr
     have:r=q:=by simpa using hr
     rw [this];exact ⟨h3,h1⟩
 · rw [hx]
   refine ⟨rfl,fun q y hy=>?_,(fun _=>he),fun q hq=>by cases hq⟩
   have:=List.all_eq_true.1 hin _ (wR _ _ _ hy)
   simpa using this
 · unfold I5 at hres
   split at hres
   · next υ hnd hb=>
     simp only [Bool.and_eq_true] at hnd
     split at hres
     · next hall=>
       simp only [Option.some.injEq,Prod.mk.injEq] at hres
       obtain ⟨_,e2,e3⟩:=hres
       refine ⟨by rw [← e3];exact hnd.2.2.2.1,fun q y hy=>?_,(fun _=>he),fun q hq=>by rw [hk] at hq;cases hq⟩
       rw [← e2] at hy
       have:=List.all_eq_true.1 hall _ (wR _ _ _ hy)
       simpa using this
     · cases hres
   · cases hres
 · rw [hx];exact ⟨rfl,(fun q y hy=>by cases hy),(fun hne=>(hne rfl).elim),fun q hq=>by cases hq⟩
theorem adP:∀ (l:List Oper) (i j:Nat) (o:Oper),l[j]? =some o→Am Γ o.op=true→i+j∈Rq Γ i l
 |[],_,_,_,h,_=>by simp at h
 |x::r,i,0,o,h,he=>by
  simp at h;subst h
  rw [Rq,he]
  simp
 |x::r,i,j+1,o,h,he=>by
  have:=adP r (i+1) j o (by simpa using h) he
  rw [show i+1+j=i+(j+1) by omega] at this
  rw [Rq]
  cases Am Γ x.op
  · exact this
  · exact List.mem_cons_of_mem _ this
theorem Way.fits {R:Reg} {ops:Array Oper} {t0:Nat} {path:List eU} {L:Nat→Bool} {base:St} (W:Way R ops t0 path) (hle:t0≤ops.size)
 (hok:∀ j o x,ops[j]? =some o→path[j]? =some x→L j=true→uI Θ Γ R base path j o x):Fits R.D R.U (pick path 0 L):=by
 have get:∀ x∈pick path 0 L,∃ j o,L j=true∧path[j]? =some x∧ops[j]? =some o:=fun x hx=>by
  obtain ⟨j,h1,h2⟩:=(lg _ _).1 hx
  rw [Nat.zero_add] at h1
  obtain ⟨hj,_⟩:=List.getElem?_eq_some_iff.1 h2
  have hlen:=W.len
  exact ⟨j,ops[j]'(by omega),h1,h2,by simp⟩
 refine ⟨fun x hx y hy e=>?_,fun x hx=>?_,fun x hx=>?_,fun x hx q z hz=>?_⟩
 · obtain ⟨j,_,_,h2,_⟩:=get x hx
   obtain ⟨k,_,_,h3,_⟩:=get y hy
   have:=W.apart j k x y h2 h3 e
   subst this
   rw [h2] at h3
   exact Option.some.inj h3
 · obtain ⟨j,_,_,h2,_⟩:=get x hx
   exact W.aob x (List.mem_of_getElem? h2)
 · obtain ⟨j,o,h1,h2,h3⟩:=get x hx
   exact (hok j o x h3 h2 h1).fit.1
 · obtain ⟨j,o,h1,h2,h3⟩:=get x hx
   exact (hok j o x h3 h2 h1).fit.2.1 q z hz
theorem Way.set {R:Reg} {ops:Array Oper} {t0:Nat} {path:List eU} {i:Nat} {x y:eU} (W:Way R ops t0 path) (hy:path[i]? =some y) (hd:x.d=y.d):Way R ops t0 (path.set i x):=by
 obtain ⟨hi,_⟩:=List.getElem?_eq_some_iff.1 hy
 have get:∀ (j:Nat) (z:eU),(path.set i x)[j]? =some z→∃ z',path[j]? =some z'∧z.d=z'.d:=fun j z hz=>by
  by_cases e:j=i
  · subst e
    rw [List.getElem?_set_self hi] at hz
    cases hz
    exact ⟨y,hy,hd⟩
  · rw [List.getElem?_set_ne (Ne.symm e)] at hz
    exact ⟨z,hz,rfl⟩
 refine ⟨by simpa using W.len,fun j o z ho hz=>?_,fun z hz=>?_,fun j k u v hu hv e=>?_,fun j z hz=>?_⟩
 · obtain ⟨z',h1,h2⟩:=get j z hz
   rw [W.dst j o z' ho h1,h2]
 · obtain ⟨j,hj⟩:=List.getElem?_of_mem hz
   obtain ⟨z',h1,h2⟩:=get j z hj
   rw [h2];exact W.aob z' (List.mem_of_getElem? h1)
 · obtain ⟨u',h1,h2⟩:=get j u hu
   obtain ⟨v',h3,h4⟩:=get k v hv
   exact W.apart j k u' v' h1 h3 (by rw [← h2,← h4];exact e)
 · obtain ⟨z',h1,h2⟩:=get j z hz
   rw [h2];exact W.idx j z' h1
theorem aoc {G:kC} (hE:uG P G Θ Γ w0 M) {ops:Array Oper} {Q:Exit→Act→World→Prop} {R:Reg} {t0:Nat} {path:List eU} {L L':Nat→Bool} {i:Nat} {o:Oper}
 (W:Way R ops t0 path) (hle:t0≤ops.size) (hit:i<t0)
 (hRn:R.n=st.n) (hDn:∀ i o d,ops[i]? =some o→i<t0→o.dst=some d→d<st.n) (hgd:∀ i o g b,ops[i]? =some o→i<t0→o.guard=some (g,b)→∃ og d,ops[g]? =some og∧og.dst=some d) (hcmp:∀ e∈R.E,Gq R.ms R.E e=true) (hEi:∀ j o',ops[j]? =some o'→j<t0→Am Γ o'.op=true→j∈R.E)
 (hA:∀ e q,JO R.A e q=true→∃ j,idxOf R.D (q / 64) 0=some j∧(R.ms.getD e 0).testBit j=true)
 (ho:ops[i]? =some o) (hen:Enabled Θ Γ R (dJ R.D st) path i o)
 (hok:∀ j o x,ops[j]? =some o→path[j]? =some x→L j=true→uI Θ Γ R (dJ R.D st) path j o x)
 (hcl:∀ j k,L j=true→(R.ms.getD j 0).testBit k=true→L k=true)
 (hsub:∀ j,(R.ms.getD i 0).testBit j=true→L j=true) (hi:L i=false) (hi':L' i=true) (h:∀ j,j≠i→L' j=L j)
 (hR:Rel w0 M T γ (after (dJ R.D st) path L) a w) {K:Act→World→Prop}
 (hK:∀ x γ' a' w',(∃ y,path[i]? =some y∧x.d=y.d)→uI Θ Γ R (dJ R.D st) (path.set i x) i o x→Rel w0 M T γ' (after (dJ R.D st) (path.set i x) L') a' w'→K a' w'):
 wpOp P ops Q i K a w:=by
 obtain ⟨d,hd,hm,hcase⟩:=hen
 have hlen:=W.len
 have hil:i<path.length:=by omega
 have hy:path[i]? =some path[i]:=by simp [hil]
 have hyd:path[i].d=d:=by
  have:=W.dst i o _ ho hy
  rw [hd] at this
  exact (Option.some.inj this).symm
 have hdD:bf R.D d=true:=by rw [← hyd];exact W.aob _ (List.mem_of_getElem? hy)
 have ain:o.dst=some d∨(o.dst=none∧Ba o.op=true∧st.n≤d):=by
  unfold vC at hd
  split at hd
  · next e he=>cases hd;exact .inl he
  · next he=>
    split at hd
    · next hs=>cases hd;exact .inr ⟨he,hs,by omega⟩
    · cases hd
 have hfit:=W.fits hle hok
 have hne:∀ y∈pick path 0 L,y.d≠d:=fun y hy' e=>by
  obtain ⟨j,h1,h2⟩:=(lg _ _).1 hy'
  rw [Nat.zero_add] at h1
  have:=W.apart j i y _ h2 hy (by rw [hyd];exact e)
  subst this
  rw [hi] at h1;cases h1
 have heff:∀ j x,path[j]? =some x→x.u≠[]→L j=true→j∈R.E:=fun j x hx hu hL=>by
  obtain ⟨hj,_⟩:=List.getElem?_eq_some_iff.1 hx
  have hoj:ops[j]? =some (ops[j]'(by omega)):=by simp
  exact hEi j _ hoj (by omega) ((hok j _ x hoj hx hL).fit.2.2.1 hu)
 have ak1:Gq R.ms R.E i=true→∀ j,j∈R.E→L j=true→(R.ms.getD i 0).testBit j=true:=fun hc j hjE hL=>by
  have:=List.all_eq_true.1 hc j hjE
  rw [Bool.or_eq_true,Bool.or_eq_true] at this
  rcases this with g|g|g
  · have:=Nat.eq_of_beq_eq_true g
    subst this
    rw [hi] at hL;cases hL
  · exact g
  · have:=hcl j i hL g
    rw [hi] at this;cases this
 have hmore:(viewAt R (dJ R.D st) path i).more (after (dJ R.D st) path L):=
  akm hfit hsub W.idx hi (fun k hk=>by
   cases hb:(R.ms.getD k 0).testBit i with
   |false=>rfl
   |true=>have:=hcl k i hk hb;rw [hi] at this;cases this) (fun hc j x hx hu hL=>ak1 hc j (heff j x hx hu hL) hL) fun e x hx hL q hq=>by
    obtain ⟨hj,_⟩:=List.getElem?_eq_some_iff.1 hx
    have hoj:ops[e]? =some (ops[e]'(by omega)):=by simp
    exact ((hok e _ x hoj hx hL).fit.2.2.2 q hq).1
 have aqA:∀ q,bf (nU (pick path 0 L)) q=true→bf R.D (q / 64)=true∧q / 64≠d:=fun q hq=>by
  obtain ⟨x,hx,hxq⟩:=(ou _).1 hq
  obtain ⟨e,h1,h2⟩:=(lg _ _).1 hx
  rw [Nat.zero_add] at h1
  obtain ⟨hj,_⟩:=List.getElem?_eq_some_iff.1 h2
  have hoj:ops[e]? =some (ops[e]'(by omega)):=by simp
  have hf:=(hok e _ x hoj h2 h1).fit.2.2.2 q hxq
  refine ⟨hf.2,fun e2=>?_⟩
  obtain ⟨j,g1,g2⟩:=hA e q hf.1
  have:=W.idx i _ hy
  rw [hyd,← e2,g1] at this
  cases this
  have:=hcl e i h1 g2
  rw [hi] at this;cases this
 have hnone:∀ q,q / 64=d→(after (dJ R.D st) path L).ah q=none:=fun q hq=>by
  have hqD:bf R.D (q / 64)=true:=by rw [hq];exact hdD
  have hP:(lS (dJ R.D st) (pick path 0 L)).ah q=none:=by
   unfold lS
   dsimp only
   rw [FD _ fun y hy'=>by
    cases hl:look y.u q with
    |none=>rfl
    |some z=>have:=(hfit.upd y hy' q z hl).2;rw [hqD] at this;cases this]
   dsimp only
   rw [ML _ fun y hy'=>by
    cases hl:look y.δ q with
    |none=>rfl
    |some z=>exact (hne y hy' ((vW (hfit.new y hy') hl).symm.trans hq)).elim]
   exact ahm hqD
  unfold after
  rw [mP]
  simp only [St.kill,hP,Option.map_none]
  cases bf (nU (pick path 0 L)) q<;>rfl
 have hself:∀ x:eU,∀ j,(R.ms.getD i 0).testBit j=true→path[j]? =(path.set i x)[j]? :=fun x j hj=>by
  by_cases e:i=j
  · subst e
    rw [pY hm (Nat.le_refl _)] at hj;cases hj
  · rw [List.getElem?_set_ne e]
 have fin:∀ (x:eU) (γ':Nat→Value) (w':World) (u:Value),x.d=d→(o.dst=none→x.v= .ng [])→(∀ q y,look x.u q=some y→bf R.U q=true∧bf R.D (q / 64)=false)→FC x.d x.δ=true→(x.u≠[]→i∈R.E)→(∀ q∈x.k,bf R.D (q / 64)=true∧q / 64≠d)→
  uI Θ Γ R (dJ R.D st) path i o x→Rel w0 M T γ' (((vU x.k (after (dJ R.D st) path L)).adds x.u).adds x.δ) a w'→bI (ay w0 T γ' (((vU x.k (after (dJ R.D st) path L)).adds x.u).adds x.δ) w') x.v u→K (a.put o.dst u) w':=by
  intro x γ' w' u hxd hxv hxu hxn hxE hxk I8 hR' hv
  have hn2:(((vU x.k (after (dJ R.D st) path L)).adds x.u).adds x.δ).n=st.n:=by rw [(Ic _ _).2,(Ic _ _).2,mP];unfold after;rw [mP];rfl
  have ap2:∀ q,bf (nU (pick (path.set i x) 0 L')) q=true→bf R.D (q / 64)=true∧q / 64≠d:=fun q hq=>by
   obtain ⟨y,hy1,hyq⟩:=(ou _).1 hq
   obtain ⟨e,h1,h2⟩:=(lg _ _).1 hy1
   rw [Nat.zero_add] at h1
   by_cases Rx:e=i
   · subst Rx
     rw [List.getElem?_set_self hil] at h2
     cases h2
     exact hxk q hyq
   · rw [List.getElem?_set_ne (Ne.symm Rx)] at h2
     rw [h e Rx] at h1
     exact aqA q ((ou _).2 ⟨y,(lg _ _).2 ⟨e,by rw [Nat.zero_add];exact h1,h2⟩,hyq⟩)
  have al3:∀ q,bf (nU (pick (path.set i x) 0 L')) q=true→(((vU x.k (after (dJ R.D st) path L)).adds x.u).adds x.δ).ah q=none:=fun q hq=>by
   obtain ⟨g1,g2⟩:=ap2 q hq
   rw [nG,nG]
   have hδq:look x.δ q=none:=by
    cases hl:look x.δ q with
    |none=>rfl
    |some z=>exact (g2 ((vW hxn hl).trans hxd)).elim
   have huq:look x.u q=none:=by
    cases hl:look x.u q with
    |none=>rfl
    |some z=>have:=(hxu q z hl).2;rw [g1] at this;cases this
   rw [hδq,huq]
   dsimp only
   rw [mP]
   unfold after
   rw [mP]
   obtain ⟨y,hy1,hyq⟩:=(ou _).1 hq
   obtain ⟨e,h1,h2⟩:=(lg _ _).1 hy1
   rw [Nat.zero_add] at h1
   by_cases Rx:e=i
   · subst Rx
     rw [List.getElem?_set_self hil] at h2
     cases h2
     simp only [St.kill,vV.2 hyq]
   · rw [List.getElem?_set_ne (Ne.symm Rx)] at h2
     rw [h e Rx] at h1
     have:=(ou (o:=q) (pick path 0 L)).2 ⟨y,(lg _ _).2 ⟨e,by rw [Nat.zero_add];exact h1,h2⟩,hyq⟩
     simp only [St.kill,this,Option.map_none]
     cases bf x.k q<;>rfl
  have hset:Rel w0 M T γ' (St.set (((vU x.k (after (dJ R.D st) path L)).adds x.u).adds x.δ) x.d x.v) (a.put o.dst u) w':=by
   rcases ain with hs|⟨hs,_,hs2⟩
   · rw [hs,← hxd]
     exact hR'.set x.d (by rw [hn2,hxd];exact hDn i o d ho hit hs) x.v u hv
   · rw [hs]
     exact hR'.ap0 x.d (by rw [hn2,hxd];exact hs2) x.v (hxv hs)
  have W':Way R ops t0 (path.set i x):=W.set hy (by rw [hxd,hyd])
  have aqB:Fits R.D R.U (pick (path.set i x) 0 L'):=by
   refine W'.fits (Θ:=Θ) (Γ:=Γ) (base:=dJ R.D st) hle fun j o' z ho' hz hL=>?_
   by_cases e:j=i
   · subst e
     rw [List.getElem?_set_self hil] at hz
     cases hz
     rw [ho] at ho';cases ho'
     exact I8.agree (hself x)
   · rw [List.getElem?_set_ne (Ne.symm e)] at hz
     rw [h j e] at hL
     refine (hok j o' z ho' hz hL).agree fun k hk=>?_
     have hLk:=hcl j k hL hk
     have hki:i≠k:=fun e=>by subst e;rw [hi] at hLk;cases hLk
     rw [List.getElem?_set_ne hki]
  rw [alY hil hi hi' h aqB (fun y hy'=>by rw [hxd];exact hne y hy') (fun hu j y hj hL hy'=>by
   refine Classical.byContradiction fun hyu=>?_
   have hjE:=heff j y hy' hyu hL
   have:=ak1 (hcmp i (hxE hu)) j hjE hL
   rw [pY hm (Nat.le_of_lt hj)] at this;cases this) (AV.wV al3 _ _ hv) (fun q y hq=>by
   have nT:(((vU x.k (after (dJ R.D st) path L)).adds x.u).adds x.δ).ah q=some y:=by
    rw [nG,nG]
    rcases hq with hq|hq
    · rw [hq]
    · have:look x.δ q=none:=by
       cases hl:look x.δ q with
       |none=>rfl
       |some z=>
        have h1:=(hxu q y hq).2
        rw [(vW hxn hl).trans hxd,hdD] at h1;cases h1
      rw [this,hq]
   refine ⟨?_,aQ.wV al3 y (hR'.ah q y nT)⟩
   cases hb:bf (nU (pick (path.set i x) 0 L')) q with
   |false=>rfl
   |true=>rw [al3 q hb] at nT;cases nT)] at hset
  exact hK x γ' _ _ ⟨_,hy,by rw [hxd,hyd]⟩ (I8.agree (hself x)) hset
 have fin2:∀ (x:eU) (γ':Nat→Value) (w':World) (u:Value),x.d=d→x.u=[]→(o.dst=none→False)→FC x.d x.δ=true→(∀ q∈x.k,bf R.D (q / 64)=true∧q / 64≠d)→
  uI Θ Γ R (dJ R.D st) path i o (pG R.F x)→Rel w0 M T γ' (((vU x.k (after (dJ R.D st) path L)).adds []).adds x.δ) a w'→bI (ay w0 T γ' (((vU x.k (after (dJ R.D st) path L)).adds []).adds x.δ) w') x.v u→K (a.put o.dst u) w':=by
  intro x γ' w' u hxd hxu hno hxn hxk I8 hR' hv
  obtain ⟨l1,l2,l3,l4⟩:=qO R.F x
  refine fin (pG R.F x) γ' w' u (l1.trans hxd) (fun h=>(hno h).elim) (fun q y hy=>by rw [l2,hxu] at hy;cases hy) (List.all_eq_true.2 fun y hy=>by rw [l1];exact List.all_eq_true.1 hxn y (l4 y hy)) (fun hne=>(hne (l2.trans hxu)).elim) (by rw [l3];exact hxk) I8 ?_ ?_
  all_goals
   rw [l3,l2,hxu]
   unfold pG
   split
   · next q q' e r l fr _ hv2 hu2 hδ=>
     split
     · next hb=>
       have e1:=Nat.eq_of_beq_eq_true hb
       subst e1
       rw [hδ] at hR' hv hxn
       rw [hv2] at hv
       have hqd:q / 64=d:=by
        have:=Nat.eq_of_beq_eq_true (List.all_eq_true.1 hxn _ List.mem_cons_self)
        exact this.trans hxd
       have hq0:(vU x.k (after (dJ R.D st) path L)).ah q=none:=by
        rw [mP]
        simp only [St.kill,hnone q hqd,Option.map_none]
        cases bf x.k q<;>rfl
       have:=aoa (hR.vU x.k) hq0 hR' hv
       first|exact this.1|exact this.2
     · first|exact hR'|exact hv
   · first|exact hR'|exact hv
 have hgv:∀ g b y,o.guard=some (g,b)→(R.ms.getD i 0).testBit g=true→path[g]? =some y→∃ og,ops[g]? =some og∧og.dst=some y.d∧∃ u,a.tmps[y.d]? =some u∧bI (ay w0 T γ (after (dJ R.D st) path L) w) (y.v.kill (bf (nU (pick path 0 L)))) u:=by
  intro g b y hgo hg hy'
  obtain ⟨hgl,_⟩:=List.getElem?_eq_some_iff.1 hy'
  have hog:ops[g]? =some (ops[g]'(by omega)):=by simp
  have ap3:(ops[g]'(by omega)).dst=some y.d:=by
   obtain ⟨og,e,h1,h2⟩:=hgd i o g b ho hit hgo
   rw [hog] at h1;cases h1
   have:=W.dst g _ y hog hy'
   unfold vC at this
   rw [h2] at this
   rw [h2];exact this
  have hyD:y.d<st.n:=hDn g _ _ hog (by omega) ap3
  have hin:y∈pick path 0 L:=(lg _ _).2 ⟨g,by rw [Nat.zero_add];exact hsub g hg,hy'⟩
  have Xa:(after (dJ R.D st) path L).tmps y.d=y.v.kill (bf (nU (pick path 0 L))):=by
   unfold after
   rw [mP]
   show (Ak (pick path 0 L) y.d _).kill _=_
   rw [PN _ hin fun z hz e=>hfit.one y hin z hz e]
  have hr1:=hR.tmps y.d
  rw [Xa] at hr1
  have hsz:y.d<a.tmps.size:=by
   rw [hR.size]
   unfold after
   rw [mP]
   exact hyD
  refine ⟨_,hog,ap3,a.tmps[y.d],by simp,?_⟩
  simpa [Array.getD,hsz] using hr1
 unfold wpOp
 simp only [ho]
 rcases hcase with ⟨hw,hcase⟩|hun
 · have hwant:Region.wanted o (yielded ops a.tmps)=true:=by
    rcases hw with e|⟨g,b,y,e1,e2,e3,e4⟩
    · unfold Region.wanted;rw [e]
    · obtain ⟨og,k1,k2,u,k3,k4⟩:=hgv g b y e1 e2 e3
      rw [e4] at k4
      have k4:u= .bool b:=k4
      subst k4
      unfold Region.wanted
      rw [e1]
      simp [yielded,k1,k2,k3]
   rw [if_pos hwant]
   left
   rcases hcase with ⟨he,ha,p,v,δ,hcalm,hp,hn⟩|⟨he,ha,p,q,y,happ,hp,hq1,hq2,hq3⟩|⟨he,hst,υ,hυ,hin⟩|⟨⟨he,hst⟩,p,ρ,os,hrel,hp,hall⟩
   · obtain ⟨v',hc',hless⟩:=amG hmore d o.op hcalm
     have hfr:jU (after (dJ R.D st) path L) δ=true:=by
      refine List.all_eq_true.2 fun z hz=>?_
      rw [hnone z.1 (Nat.eq_of_beq_eq_true (List.all_eq_true.1 hn z hz))]
      rfl
     refine L6 hE hR o hc' hp hfr ?_
     intro u γ' w' hR' hv'
     have hvx:bI (ay w0 T γ' ((after (dJ R.D st) path L).adds δ) w') v u:=by
      rcases hless with e|e
      · rw [e];trivial
      · rw [← e];exact hv'
     have I8:uI Θ Γ R (dJ R.D st) path i o (pG R.F ⟨d,v,[],δ,[]⟩):=by
      obtain ⟨l1,_⟩:=qO R.F ⟨d,v,[],δ,[]⟩
      refine ⟨by rw [l1];exact hd,hm, .inl ⟨hw, .inl ⟨he,ha,p,v,δ,by rw [l1];exact hcalm,hp,by rw [l1];exact hn,by rw [l1]⟩⟩⟩
     exact fin2 ⟨d,v,[],δ,[]⟩ γ' w' u rfl rfl (fun h=>by
      rcases ain with hs|⟨_,hs,_⟩
      · rw [h] at hs;cases hs
      · rw [ahp hs] at he;cases he) hn (fun q hq=>by cases hq) I8 hR' hvx
   · have aqC:=akf hmore happ
     have I8:uI Θ Γ R (dJ R.D st) path i o (pG R.F ⟨d, .sv (.one (.ref (d*64+1))),[],[(d*64+1,y)],[q]⟩):=by
      obtain ⟨l1,_⟩:=qO R.F ⟨d, .sv (.one (.ref (d*64+1))),[],[(d*64+1,y)],[q]⟩
      refine ⟨by rw [l1];exact hd,hm, .inl ⟨hw, .inr (.inl ⟨he,ha,p,q,y,happ,hp,by rw [l1];exact ⟨hq1,hq2,hq3⟩,by rw [l1]⟩)⟩⟩
     have hkq:∀ s:St,s.kill (bf [q])=s.kill (Nat.beq q ·):=fun s=>by
      rw [show bf [q]=(Nat.beq q ·) from funext fun o=>by
       simp only [bf]
       cases h1:Nat.beq o q with
       |true=>rw [Nat.eq_of_beq_eq_true h1,Nat.beq_refl]
       |false=>
        cases h2:Nat.beq q o with
        |false=>rfl
        |true=>rw [Nat.eq_of_beq_eq_true h2,Nat.beq_refl] at h1;cases h1]
     refine amO hE hR o (n:=d*64+1) aqC hp (hnone (d*64+1) (apn d)) fun u γ' w' hR' hv=>?_
     rw [← hkq] at hR' hv
     exact fin2 ⟨d, .sv (.one (.ref (d*64+1))),[],[(d*64+1,y)],[q]⟩ γ' w' u rfl rfl (fun h=>by
      rcases ain with hs|⟨_,hs,_⟩
      · rw [h] at hs;cases hs
      · rw [ahp hs] at he;cases he) (by
        show (Nat.beq ((d*64+1) / 64) d&&true)=true
        rw [show (d*64+1) / 64=d by omega,Nat.beq_refl];rfl)
      (fun r hr=>by rw [show r=q by simpa using hr];exact ⟨hq1,hq2⟩) I8 hR' hv
   · have I8:uI Θ Γ R (dJ R.D st) path i o ⟨d, .ng [],υ,[],[]⟩:=⟨hd,hm, .inl ⟨hw, .inr (.inr (.inl ⟨he,hst,υ,hυ,hin,rfl⟩))⟩⟩
     obtain ⟨f1,f2,f3,_⟩:=I8.fit
     refine afV hE hR hmore o hυ fun γ' w' hR'=>?_
     exact fin ⟨d, .ng [],υ,[],[]⟩ γ' w' undef rfl (fun _=>rfl) f2 f1 (fun _=>hEi i o ho hit he) (fun q hq=>by cases hq) I8 hR' ⟨#[],rfl,trivial⟩
   · refine ajf hE hR hmore o hrel hp hnone hall fun t v υ δ u γ' w' ht hres hR' hv=>?_
     have I8:uI Θ Γ R (dJ R.D st) path i o ⟨d,v,υ,δ,[]⟩:=⟨hd,hm, .inl ⟨hw, .inr (.inr (.inr ⟨⟨he,hst⟩,rfl,p,ρ,os,t,hrel,hp,ht,hall,hres⟩))⟩⟩
     obtain ⟨f1,f2,f3,_⟩:=I8.fit
     exact fin ⟨d,v,υ,δ,[]⟩ γ' w' u rfl (fun h=>by
      rcases ain with hs|⟨_,hs,_⟩
      · rw [h] at hs;cases hs
      · rw [hst] at hs;cases hs) f2 f1 (fun _=>hEi i o ho hit he) (fun q hq=>by cases hq) I8 hR' hv
 · have hwant:Region.wanted o (yielded ops a.tmps)=false:=by
    obtain ⟨g,b,y,e1,e2,e3,e4⟩:=hun
    obtain ⟨og,k1,k2,u,k3,k4⟩:=hgv g b y e1 e2 e3
    unfold Region.wanted
    rw [e1]
    rcases e4 with ⟨c,e4,hne'⟩|⟨vs,e4⟩
    · rw [e4] at k4
      have k4:u= .bool c:=k4
      subst k4
      cases c<;>cases b<;>first|(exact (hne' rfl).elim)|simp [yielded,k1,k2,k3]
    · rw [e4] at k4
      obtain ⟨us,rfl,_⟩:=k4
      simp [yielded,k1,k2,k3]
   rw [if_neg (by rw [hwant];simp)]
   exact fin (skipped d) γ w undef rfl (fun _=>rfl) (fun q y hy=>by cases hy) rfl (fun hu=>(hu rfl).elim) (fun q hq=>by cases hq) ⟨hd,hm, .inr ⟨hun,rfl⟩⟩ hR ⟨#[],rfl,trivial⟩
theorem fill {G:kC} (hE:EnvB P G Θ Γ) {R:Reg} {base:St} {front:List Oper} {path:List eU} {L:Nat→Bool}
 (TQ:∀ ext:List eU,abT Θ Γ R base front ext→∀ o,front[ext.length]? =some o→Enabled Θ Γ R base ext ext.length o)
 (hok:∀ j o x,front[j]? =some o→path[j]? =some x→L j=true→uI Θ Γ R base path j o x) (hlen:path.length=front.length)
 (hcl:∀ j k,L j=true→(R.ms.getD j 0).testBit k=true→L k=true):
 ∀ n,n≤front.length→∃ ext:List eU,ext.length=n∧abT Θ Γ R base front ext∧∀ j,j<n→L j=true→ext[j]? =path[j]? :=by
 intro n
 induction n with
 |zero=>exact fun _=>⟨[],rfl,(fun i o x _ hx=>by simp at hx),(fun j hj=>by omega)⟩
 |succ n ih=>
  intro hn
  obtain ⟨ext,h1,h2,h3⟩:=ih (by omega)
  have ho:front[n]? =some (front[n]'(by omega)):=by simp
  have more:∀ x:eU,uI Θ Γ R base (ext++[x]) n (front[n]'(by omega)) x→abT Θ Γ R base front (ext++[x]):=by
   intro x hx i o y hi hy
   rcases Nat.lt_or_ge i n with hlt|hge
   · rw [CY (by omega)] at hy
     have:=h2 i o y hi hy
     refine this.agree fun j hj=>?_
     have:j<i:=by
      rcases Nat.lt_or_ge j i with h|h
      · exact h
      · rw [pY this.2.1 h] at hj;cases hj
     rw [CY (by omega)]
   · have:i=n:=by
      obtain ⟨hi',_⟩:=List.getElem?_eq_some_iff.1 hy
      simp at hi';omega
     subst this
     rw [ho] at hi;cases hi
     have e:y=x:=by rw [← h1] at hy;simpa using hy.symm
     rw [e];exact hx
  cases hL:L n with
  |true=>
   have hp:path[n]? =some (path[n]'(by omega)):=by simp
   have hx:=hok n _ _ ho hp hL
   have hag:∀ j,(R.ms.getD n 0).testBit j=true→path[j]? =(ext++[path[n]'(by omega)])[j]? :=fun j hj=>by
    have hjn:j<n:=by
     rcases Nat.lt_or_ge j n with h|h
     · exact h
     · rw [pY hx.2.1 h] at hj;cases hj
    rw [CY (by omega),h3 j hjn (hcl n j hL hj)]
   refine ⟨ext++[path[n]'(by omega)],by simp [h1],more _ (hx.agree hag),fun j hj hLj=>?_⟩
   by_cases e:j=n
   · subst e
     rw [hp,List.getElem?_append_right (by omega)]
     simp [h1]
   · rw [CY (by omega)]
     exact h3 j (by omega) hLj
  |false=>
   have hen:=TQ ext h2 _ (by rw [h1];exact ho)
   rw [h1] at hen
   have hag:∀ x:eU,(∃ d,vC R.n n (front[n]'(by omega))=some d∧R.ms.getD n 0<2 ^ n)→∀ j,(R.ms.getD n 0).testBit j=true→ext[j]? =(ext++[x])[j]? :=fun x ⟨_,_,hm⟩ j hj=>by
    have hjn:j<n:=by
     rcases Nat.lt_or_ge j n with h|h
     · exact h
     · rw [pY hm h] at hj;cases hj
    rw [CY (by omega)]
   obtain ⟨d,hd,hm,hc⟩:=hen
   have hx:∃ x,uI Θ Γ R base ext n (front[n]'(by omega)) x:=by
    rcases hc with ⟨hw,⟨he,ha,p,v,δ,hcalm,hp,hnm⟩|⟨he,ha,p,q,y,happ,hp,hq⟩|⟨he,hst,υ,hυ,hin⟩|⟨⟨he,hst⟩,p,ρ,os,hrel,hp,hall⟩⟩|hun
    · exact ⟨pG R.F ⟨d,v,[],δ,[]⟩,by rw [(qO _ _).1];exact hd,hm, .inl ⟨hw, .inl ⟨he,ha,p,v,δ,by rw [(qO _ _).1];exact hcalm,hp,by rw [(qO _ _).1];exact hnm,by rw [(qO _ _).1]⟩⟩⟩
    · exact ⟨pG R.F ⟨d, .sv (.one (.ref (d*64+1))),[],[(d*64+1,y)],[q]⟩,by rw [(qO _ _).1];exact hd,hm, .inl ⟨hw, .inr (.inl ⟨he,ha,p,q,y,happ,hp,by rw [(qO _ _).1];exact hq,by rw [(qO _ _).1]⟩)⟩⟩
    · exact ⟨⟨d, .ng [],υ,[],[]⟩,hd,hm, .inl ⟨hw, .inr (.inr (.inl ⟨he,hst,υ,hυ,hin,rfl⟩))⟩⟩
    · have hne:∃ t,ρ.R t:=by
       unfold Rt at hrel
       split at hrel
       case h_2=>cases hrel
       next f args qN hop=>
       split at hrel
       case h_2=>cases hrel
       next ms con hcon=>
       split at hrel
       case h_2=>cases hrel
       next vs os' WY=>
       split at hrel
       case h_2=>cases hrel
       split at hrel
       case h_2=>cases hrel
       next q ρ' hq=>
       cases hrel
       exact ((hE.aif f ms con hcon).1 vs _ ρ hq hp).1
      obtain ⟨t,ht⟩:=hne
      obtain ⟨⟨v,υ,δ⟩,hres⟩:=hall t ht
      exact ⟨⟨d,v,υ,δ,[]⟩,hd,hm, .inl ⟨hw, .inr (.inr (.inr ⟨⟨he,hst⟩,rfl,p,ρ,os,t,hrel,hp,ht,hall,hres⟩))⟩⟩
    · exact ⟨skipped d,hd,hm, .inr ⟨hun,rfl⟩⟩
   obtain ⟨x,hx⟩:=hx
   refine ⟨ext++[x],by simp [h1],more x (hx.agree (hag x ⟨d,hd,hm⟩)),fun j hj hLj=>?_⟩
   have:j≠n:=fun e=>by subst e;rw [hL] at hLj;cases hLj
   rw [CY (by omega)]
   exact h3 j (by omega) hLj
end Go.Fw
namespace Go.Fw
open Go
variable {P:Program}
def handsOn (o:Oper):Option Operand:=match o.op,o.guard with
 | .move x,none=>some x
 | .extract x _,none=>some x
 |_,_=>none
def Operand.Ob (d:Nat):Operand→Bool
 | .tmp t=>!(Nat.beq t d)
 |_=>true
def abU (d:Nat) (o:Oper):Bool:=match o.op,o.guard with
 | .move x,none| .assign x,none| .extract x _,none=>Operand.Ob d x
 | .store _ a x,none=>Operand.Ob d a&&Operand.Ob d x
 |_,_=>false
def passes (f o:Oper):Bool:=match handsOn f,f.dst with
 |some x,some d=>abU d o&&(match o.dst with|some e=>!(Nat.beq e d)&&Operand.Ob e x|none=>true)
 |_,_=>false
theorem eval_put_ne {a:Act} {d:Option Tmp} {v:Value} {x:Operand} (h:∀ e,d=some e→Operand.Ob e x=true):(a.put d v).eval x=a.eval x:=by
 cases d with
 |none=>rfl
 |some e=>
  cases x with
  |tmp t=>
   have:=h e rfl
   have hne:e≠t:=fun h=>by subst h;simp [Operand.Ob] at this
   show (a.tmps.setIfInBounds e v).getD t undef=a.tmps.getD t undef
   simp only [Array.getD_eq_getD_getElem?]
   rw [Array.getElem?_setIfInBounds_ne hne]
  |const _=>rfl
  |global _=>rfl
  |func _=>rfl
theorem put_comm {a:Act} {d e:Option Tmp} {u v:Value} (h:∀ x y,d=some x→e=some y→x≠y):(a.put d u).put e v=(a.put e v).put d u:=by
 cases d with
 |none=>rfl
 |some x=>cases e with
  |none=>rfl
  |some y=>
   have:=h x y rfl rfl
   simp only [Act.put]
   rw [Array.setIfInBounds_comm _ _ this]
theorem ajg {f:Oper} {x:Operand} (hf:handsOn f=some x):f.guard=none∧
 ((∃ g:Value→Option Value,(∀ b:Act,∀ w',(match g (b.eval x) with|some u=>(execOp b.eval f).run P w'= .ok (.value u) w'|none=>∃ m,(execOp b.eval f).run P w'=m∧∀ next Q,¬ f.upon P b next Q m)))):=by
 unfold handsOn at hf
 split at hf
 · next y hop hg=>
   cases hf
   exact ⟨hg,fun v=>some v,fun b w'=>by simp [execOp,hop]⟩
 · next y ix hop hg=>
   cases hf
   refine ⟨hg,fun v=>match v with| .tuple vs=>vs[ix]? |_=>none,fun b w'=>?_⟩
   cases hv:b.eval x with
   |tuple vs=>
    simp only
    cases hq:vs[ix]? with
    |some u=>simp [execOp,hop,hv,Instr.extract,hq]
    |none=>
     refine ⟨_,rfl,fun next Q=>?_⟩
     simp [execOp,hop,hv,Instr.extract,hq,stuck,Oper.upon]
   |_=>
    refine ⟨_,rfl,fun next Q=>?_⟩
    simp [execOp,hop,hv,Instr.extract,stuck,Oper.upon]
 · cases hf
theorem ahQ {d:Nat} {o:Oper} (h:abU d o=true):o.guard=none∧
 (∀ (a:Act) (v:Value),execOp (a.put (some d) v).eval o=execOp a.eval o)∧
 (∀ (a:Act) (w:World),(∃ v w',(execOp a.eval o).run P w= .ok (.value v) w')∨(∃ w',(execOp a.eval o).run P w= .ok .skip w')∨∃ x w',(execOp a.eval o).run P w= .halt x w'):=by
 unfold abU at h
 have ev:∀ (a:Act) (v:Value) (x:Operand),Operand.Ob d x=true→(a.put (some d) v).eval x=a.eval x:=fun a v x hx=>eval_put_ne fun e he=>by cases he;exact hx
 split at h
 · next x hop hg=>
   refine ⟨hg,fun a v=>?_,fun a w=> .inl ⟨a.eval x,w,?_⟩⟩
   · simp only [execOp,hop,ev a v x h]
   · simp [execOp,hop]
 · next x hop hg=>
   refine ⟨hg,fun a v=>?_,fun a w=> .inl ⟨a.eval x,w,?_⟩⟩
   · simp only [execOp,hop,ev a v x h]
   · simp [execOp,hop]
 · next x ix hop hg=>
   refine ⟨hg,fun a v=>?_,fun a w=>?_⟩
   · simp only [execOp,hop,ev a v x h]
   · cases hr:(Instr.extract (a.eval x) ix).run P w with
     |ok u w'=>exact .inl ⟨u,w',by simp [execOp,hop,hr]⟩
     |halt u w'=>exact .inr (.inr ⟨u,w',by simp [execOp,hop,hr]⟩)
 · next t b x hop hg=>
   rw [Bool.and_eq_true] at h
   refine ⟨hg,fun a v=>?_,fun a w=>?_⟩
   · simp only [execOp,hop,ev a v b h.1,ev a v x h.2]
   · cases hr:(Instr.storeAt t (a.eval b) (a.eval x)).run P w with
     |ok u w'=>exact .inr (.inl ⟨w',by simp [execOp,hop,hr]⟩)
     |halt u w'=>exact .inr (.inr ⟨u,w',by simp [execOp,hop,hr]⟩)
 · cases h
def stepW (P:Program) (ops:Array Oper) (Q:Exit→Act→World→Prop) (o:Oper) (K:Act→World→Prop) (a:Act) (w:World):Prop:=
 if Region.wanted o (yielded ops a.tmps) then o.wp P a w K Q∨(o.asks P a w∧LetsOut Q) else K (a.put o.dst undef) w
theorem TR {ops:Array Oper} {Q:Exit→Act→World→Prop} {o:Oper} {K K':Act→World→Prop} {a:Act} {w:World} (h:∀ a w,K a w→K' a w) (hs:stepW P ops Q o K a w):stepW P ops Q o K' a w:=by
 unfold stepW at*
 split
 · next hw=>rw [if_pos hw] at hs;exact hs.imp (Oper.wp_mono h) id
 · next hw=>rw [if_neg hw] at hs;exact h _ _ hs
theorem MN {ops:Array Oper} {Q:Exit→Act→World→Prop} (hO:¬ LetsOut Q) {o:Oper} (hg:o.guard=none) {K:Act→World→Prop} {a:Act} {w:World}:stepW P ops Q o K a w↔o.wp P a w K Q:=by
 have hw:Region.wanted o (yielded ops a.tmps)=true:=by simp [Region.wanted,hg]
 unfold stepW
 rw [if_pos hw]
 exact ⟨fun h=>h.elim id fun h=>(hO h.2).elim, .inl⟩
theorem al4 {ops:Array Oper} {Q:Exit→Act→World→Prop} (hQ:∀ c a w,¬ Q (.panic c) a w) (hO:¬ LetsOut Q) {f o:Oper} (h:passes f o=true) {K:Act→World→Prop} {a:Act} {w:World}
 (hs:stepW P ops Q f (stepW P ops Q o K) a w):stepW P ops Q o (stepW P ops Q f K) a w:=by
 unfold passes at h
 split at h
 · next x d hx hd=>
   rw [Bool.and_eq_true] at h
   obtain ⟨hp,hde⟩:=h
   obtain ⟨hgf,g,hg⟩:=ajg (P:=P) hx
   obtain ⟨hgo,hsame,hout⟩:=ahQ (P:=P) hp
   rw [MN hO hgf] at hs
   rw [MN hO hgo]
   have hxo:∀ (v:Value),(a.put o.dst v).eval x=a.eval x:=fun v=>eval_put_ne fun e he=>by
    rw [he] at hde;simp only [Bool.and_eq_true] at hde;exact hde.2
   have hcomm:∀ (u v:Value),(a.put f.dst u).put o.dst v=(a.put o.dst v).put f.dst u:=fun u v=>put_comm fun x y hx hy=>by
    rw [hd] at hx;cases hx
    rw [hy] at hde;simp only [Bool.and_eq_true,Bool.not_eq_true'] at hde
    intro e;subst e;simp at hde
   have h0:=hg a w
   cases hga:g (a.eval x) with
   |none=>
    rw [hga] at h0
    obtain ⟨m,hm,hno⟩:=h0
    unfold Oper.wp at hs
    rw [hm] at hs
    exact (hno _ _ hs).elim
   |some u=>
    rw [hga] at h0
    simp only at h0
    unfold Oper.wp at hs
    rw [h0] at hs
    have hs:stepW P ops Q o K (a.put f.dst u) w:=hs
    rw [MN hO hgo] at hs
    unfold Oper.wp at hs ⊢
    rw [hd,hsame] at hs
    rw [← hd] at hs
    have again:∀ (v:Value) (w':World),K ((a.put f.dst u).put o.dst v) w'→stepW P ops Q f K (a.put o.dst v) w':=by
     intro v w' hK
     rw [MN hO hgf]
     have h1:=hg (a.put o.dst v) w'
     rw [hxo,hga] at h1
     simp only at h1
     unfold Oper.wp
     rw [h1]
     show K _ _
     rw [← hcomm];exact hK
    rcases hout a w with ⟨v,w',hr⟩|⟨w',hr⟩|⟨y,w',hr⟩
    · rw [hr] at hs ⊢
      exact again v w' hs
    · rw [hr] at hs ⊢
      exact again undef w' hs
    · rw [hr] at hs
      cases y<;>simp only [Oper.upon] at hs
      exact (hQ _ _ _ hs).elim
 · cases h
def I9 (P:Program) (ops:Array Oper) (Q:Exit→Act→World→Prop) (K:Act→World→Prop):List Oper→Act→World→Prop
 |[]=>K
 |o::r=>stepW P ops Q o (I9 P ops Q K r)
theorem aa3 {ops:Array Oper} {Q:Exit→Act→World→Prop}:∀ (l:List Oper),I9 P ops Q (Q .normal) l=wpList P ops Q l
 |[]=>rfl
 |o::r=>by
  funext a w
  rw [I9,aa3 r]
  rfl
theorem abV {ops:Array Oper} {Q:Exit→Act→World→Prop} (hQ:∀ c a w,¬ Q (.panic c) a w) (hO:¬ LetsOut Q) {o:Oper} {K:Act→World→Prop} (B:List Oper):
 ∀ (A:List Oper) (a:Act) (w:World),(∀ f∈A,passes f o=true)→I9 P ops Q K (A++o::B) a w→stepW P ops Q o (I9 P ops Q K (A++B)) a w
 |[],_,_,_,hs=>hs
 |f::A,a,w,h,hs=>by
  have hs:stepW P ops Q f (I9 P ops Q K (A++o::B)) a w:=hs
  exact al4 hQ hO (h f List.mem_cons_self) (TR (fun a w h'=>abV hQ hO B A a w (fun f hf=>h f (List.mem_cons_of_mem _ hf)) h') hs)
theorem wpOp_step {ops:Array Oper} {Q:Exit→Act→World→Prop} {i:Nat} {o:Oper} (ho:ops[i]? =some o) {K:Act→World→Prop} {a:Act} {w:World}:wpOp P ops Q i K a w↔stepW P ops Q o K a w:=by
 unfold wpOp stepW
 simp only [ho]
theorem Xp {ops:Array Oper} {listed:Array Bool} (hcl:∀ i j,listed.getD i false=true→((masks ops.toList []).getD i 0).testBit j=true→listed.getD j false=true) {i:Nat} {o:Oper} (ho:ops[i]? =some o)
 (hi:i∈Region.ready .any ops listed) (j:Nat) (hj:((masks ops.toList []).getD i 0).testBit j=true):listed.getD j false=true:=by
 obtain ⟨o',ho',hn,hall⟩:=EK.1 hi
 rw [ho] at ho';cases ho'
 obtain ⟨e,he,hb,hej⟩:=am5 (ops:=ops.toList) (i:=i) (o:=o) (by simpa using ho) hj
 rcases hej with rfl|h
 · exact hall e he hb
 · exact hcl e.on j (hall e he hb) h
theorem aod {ops:Array Oper} {Q:Exit→Act→World→Prop} (hQ:∀ c a w,¬ Q (.panic c) a w) (hO:¬ LetsOut Q) {t0:Nat} {S:Nat→Prop}
 (hfl:∀ i o j f,ops[i]? =some o→ops[j]? =some f→j<i→t0≤i∨(S i∧S j)→((masks ops.toList []).getD i 0).testBit j=true∨(S j∧passes f o=true)) (hS:∀ j,S j→j<t0)
 (hlt:∀ i o,ops[i]? =some o→(masks ops.toList []).getD i 0<2 ^ i):
 ∀ (fuel:Nat) (F:List (Nat×Oper)) (l:List Oper) (k:Nat) (listed:Array Bool) (a:Act) (w:World),t0≤k→k≤ops.size→(∀ j,l[j]? =ops[k+j]?)→listed.size=ops.size→
   (∀ x∈F,ops[x.1]? =some x.2∧S x.1)→F.Pairwise (fun x y=>x.1<y.1)→
   (∀ i,i<ops.size→(listed.getD i false=true↔i<k∧∀ x∈F,x.1≠i))→
   (∀ i j,listed.getD i false=true→((masks ops.toList []).getD i 0).testBit j=true→listed.getD j false=true)→
   F.length+ops.size≤k+fuel→I9 P ops Q (Q .normal) (F.map (·.2)++l) a w→wpAny P .any ops Q fuel listed a w:=by
 intro fuel
 have ana:∀ {i:Nat} {o:Oper},ops[i]? =some o→∀ e∈o.after,Region.binds .any e=true→e.on<i:=by
  intro i o ho e he hb
  have adQ:=ahk (ops:=ops.toList) (i:=i) (o:=o) (by simpa using ho) he hb
  rcases Nat.lt_or_ge e.on i with h|h
  · exact h
  · rw [pY (hlt i o ho) h] at adQ;cases adQ
 have apo:∀ (k:Nat) (l:List Oper) (listed:Array Bool),(∀ j,l[j]? =ops[k+j]?)→listed.size=ops.size→(∀ i,i<ops.size→(listed.getD i false=true↔i<k∧∀ x∈([]:List (Nat×Oper)),x.1≠i))→l=[]→Region.ready .any ops listed=[]:=by
  intro k l listed hl hsz hL hnil
  have hend:ops.size≤k:=by
   rcases Nat.lt_or_ge k ops.size with h|h
   · have:=hl 0;simp [h,hnil] at this
   · exact h
  refine List.eq_nil_iff_forall_not_mem.2 fun i hi=>?_
  obtain ⟨o,ho,hn,_⟩:=EK.1 hi
  obtain ⟨hi1,_⟩:=Array.getElem?_eq_some_iff.1 ho
  have:=(hL i hi1).2 ⟨by omega,fun x hx=>by cases hx⟩
  rw [Ih (by omega),this] at hn;cases hn
 induction fuel with
 |zero=>
  intro F l k listed a w hk hkz hl hsz hF hp hL hcl hf hw
  have hk2:ops.size≤k∧F.length=0:=by
   rcases Nat.lt_or_ge k ops.size with h|h
   · omega
   · refine ⟨h,?_⟩
     cases F with
     |nil=>rfl
     |cons x F=>
      exfalso
      have:=hl 0
      obtain ⟨h1,h2⟩:=hF x List.mem_cons_self
      have:=hS _ h2
      simp only [List.length_cons] at hf
      omega
  obtain ⟨hk2,hF0⟩:=hk2
  have hFn:F=[]:=List.length_eq_zero_iff.1 hF0
  subst hFn
  have hln:l=[]:=by
   cases l with
   |nil=>rfl
   |cons o l=>have:=hl 0;rw [Array.getElem?_eq_none (by omega)] at this;cases this
  subst hln
  exact wpAny_done (apo k [] listed hl hsz hL rfl) hw 0
 |succ fuel ih=>
  intro F l k listed a w hk hkz hl hsz hF hp hL hcl hf hw
  have hset:∀ i,i<listed.size→∀ j,(listed.setIfInBounds i true).getD j false=(if j=i then true else listed.getD j false):=by
   intro i hi j
   split
   · next e=>subst e;simp [Array.getD,hi]
   · next e=>exact getD_set_ne false (Ne.symm e)
  have anb:∀ i o,ops[i]? =some o→i∈Region.ready .any ops listed→∀ j m,(listed.setIfInBounds i true).getD j false=true→((masks ops.toList []).getD j 0).testBit m=true→(listed.setIfInBounds i true).getD m false=true:=by
   intro i o ho hi j m hj hm
   obtain ⟨hi1,_⟩:=Array.getElem?_eq_some_iff.1 ho
   rw [hset i (by omega)] at hj ⊢
   split
   · rfl
   · split at hj
     · next e=>subst e;exact Xp hcl ho hi m hm
     · exact hcl j m hj hm
  refine ⟨fun hnone=>?_,fun i hi=>?_⟩
  · cases F with
    |cons x F=>
     exfalso
     obtain ⟨hx1,hx2⟩:=hF x List.mem_cons_self
     have asX:=hS _ hx2
     obtain ⟨hxs,_⟩:=Array.getElem?_eq_some_iff.1 hx1
     have hun:listed.getD x.1 true=false:=by
      rw [Ih (by omega)]
      cases hb:listed.getD x.1 false with
      |false=>rfl
      |true=>exact (((hL x.1 hxs).1 hb).2 x List.mem_cons_self rfl).elim
     have:x.1∈Region.ready .any ops listed:=by
      refine EK.2 ⟨x.2,hx1,hun,fun e he hb=>?_⟩
      have aoe:=ana hx1 e he hb
      refine (hL e.on (by omega)).2 ⟨by omega,fun y hy=>?_⟩
      rcases List.mem_cons.1 hy with rfl|hy
      · omega
      · have:=(List.pairwise_cons.1 hp).1 y hy;omega
     rw [hnone] at this;cases this
    |nil=>
     cases l with
     |nil=>exact hw
     |cons o l=>
      exfalso
      have ho:ops[k]? =some o:=by simpa using (hl 0).symm
      obtain ⟨hks,_⟩:=Array.getElem?_eq_some_iff.1 ho
      have hun:listed.getD k true=false:=by
       rw [Ih (by omega)]
       cases hb:listed.getD k false with
       |false=>rfl
       |true=>have:=((hL k hks).1 hb).1;omega
      have:k∈Region.ready .any ops listed:=by
       refine EK.2 ⟨o,ho,hun,fun e he hb=>?_⟩
       have aoe:=ana ho e he hb
       exact (hL e.on (by omega)).2 ⟨by omega,fun y hy=>by cases hy⟩
      rw [hnone] at this;cases this
  · obtain ⟨o,ho,hn,_⟩:=EK.1 hi
    obtain ⟨his,_⟩:=Array.getElem?_eq_some_iff.1 ho
    have hun:listed.getD i false=false:=by rw [← Ih (by omega)];exact hn
    have hsub:=Xp hcl ho hi
    rw [wpOp_step ho]
    by_cases hFi:∃ x∈F,x.1=i
    · obtain ⟨x,hxF,rfl⟩:=hFi
      obtain ⟨A,B,rfl⟩:=List.append_of_mem hxF
      obtain ⟨hx1,hx2⟩:=hF x hxF
      rw [ho] at hx1
      have hxo:x.2=o:=(Option.some.inj hx1).symm
      have hpA:∀ y∈A,y.1<x.1:=fun y hy=>(List.pairwise_append.1 hp).2.2 y hy x List.mem_cons_self
      have hpB:∀ y∈B,x.1<y.1:=fun y hy=>(List.pairwise_cons.1 (List.pairwise_append.1 hp).2.1).1 y hy
      have hw2:I9 P ops Q (Q .normal) (A.map (·.2)++o::(B.map (·.2)++l)) a w:=by
       rw [List.map_append,List.map_cons,hxo,List.append_assoc] at hw
       exact hw
      refine TR ?_ (abV hQ hO _ _ a w (fun f hf=>?_) hw2)
      · intro a' w' h'
        refine ih (A++B) l k _ a' w' hk hkz hl (by simpa using hsz) (fun y hy=>hF y ?_) ?_ ?_ (anb x.1 o ho hi) ?_ (by rw [List.map_append,List.append_assoc];exact h')
        · rcases List.mem_append.1 hy with h|h
          · exact List.mem_append_left _ h
          · exact List.mem_append_right _ (List.mem_cons_of_mem _ h)
        · rw [List.pairwise_append] at hp ⊢
          exact ⟨hp.1,(List.pairwise_cons.1 hp.2.1).2,fun y hy z hz=>hp.2.2 y hy z (List.mem_cons_of_mem _ hz)⟩
        · intro j hj
          rw [hset x.1 (by omega)]
          split
          · next e=>
            subst e
            refine ⟨fun _=>⟨by have:=hS _ hx2;omega,fun y hy=>?_⟩,fun _=>rfl⟩
            rcases List.mem_append.1 hy with h|h
            · have:=hpA y h;omega
            · have:=hpB y h;omega
          · next e=>
            rw [hL j hj]
            refine and_congr_right fun _=>⟨fun h y hy=>?_,fun h y hy=>?_⟩
            · rcases List.mem_append.1 hy with h'|h'
              · exact h y (List.mem_append_left _ h')
              · exact h y (List.mem_append_right _ (List.mem_cons_of_mem _ h'))
            · rcases List.mem_append.1 hy with h'|h'
              · exact h y (List.mem_append_left _ h')
              · rcases List.mem_cons.1 h' with rfl|h'
                · exact fun e'=>e e'.symm
                · exact h y (List.mem_append_right _ h')
        · simp only [List.length_append,List.length_cons] at hf ⊢;omega
      · obtain ⟨y,hy,rfl⟩:=List.mem_map.1 hf
        obtain ⟨hy1,hy2⟩:=hF y (List.mem_append_left _ hy)
        obtain ⟨hys,_⟩:=Array.getElem?_eq_some_iff.1 hy1
        rcases hfl x.1 o y.1 y.2 ho hy1 (hpA y hy) (.inr ⟨hx2,hy2⟩) with hb|hb
        · have:=((hL y.1 hys).1 (hsub y.1 hb)).2 y (List.mem_append_left _ hy) rfl
          exact this.elim
        · exact hb.2
    · have hge:k≤i:=by
       rcases Nat.lt_or_ge i k with h|h
       · have:=(hL i his).2 ⟨h,fun x hx e=>hFi ⟨x,hx,e⟩⟩
         rw [hun] at this;cases this
       · exact h
      have hik:i=k:=by
       rcases Nat.lt_or_ge k i with h|h
       · exfalso
         have hok:∃ f,ops[k]? =some f:=⟨ops[k]'(by omega),by simp⟩
         obtain ⟨f,hof⟩:=hok
         rcases hfl i o k f ho hof h (.inl (by omega)) with hb|hb
         · have:=((hL k (by omega)).1 (hsub k hb)).1;omega
         · have:=hS _ hb.1;omega
       · omega
      subst hik
      cases l with
      |nil=>have:=hl 0;rw [Nat.add_zero,ho] at this;cases this
      |cons o' l=>
       have ho':ops[i]? =some o':=by simpa using (hl 0).symm
       rw [ho] at ho';cases ho'
       refine TR ?_ (abV hQ hO _ _ a w (fun f hf=>?_) hw)
       · intro a' w' h'
         refine ih F l (i+1) _ a' w' (by omega) (by omega) (fun j=>by have:=hl (j+1);simpa [Nat.add_assoc,Nat.add_comm 1 j] using this) (by simpa using hsz) hF hp ?_ (anb i o ho hi) (by omega) h'
         intro j hj
         rw [hset i (by omega)]
         split
         · next e=>subst e;exact ⟨fun _=>⟨by omega,fun x hx e=>hFi ⟨x,hx,e⟩⟩,fun _=>rfl⟩
         · next e=>rw [hL j hj];exact and_congr_left fun _=>by omega
       · obtain ⟨y,hy,rfl⟩:=List.mem_map.1 hf
         obtain ⟨hy1,hy2⟩:=hF y hy
         obtain ⟨hys,_⟩:=Array.getElem?_eq_some_iff.1 hy1
         have:=hS _ hy2
         rcases hfl i o y.1 y.2 ho hy1 (by omega) (.inl hk) with hb|hb
         · exact (((hL y.1 hys).1 (hsub y.1 hb)).2 y hy rfl).elim
         · exact hb.2
end Go.Fw
namespace Go.Fw
open Go
variable {P:Program} {w0:World} {M:Nat→Prop} {T:Ext} {γ γ':Nat→Value} {st:St} {a:Act} {w w':World} {Θ:jC} {Γ:lF}
def ajh:Op→Bool
 | .store _ _ _=>false
 | .call {callee:= .builtin .append, .. }| .call {callee:= .builtin .copy, .. }| .call {callee:= .builtin .clear, .. }=>false
 |_=>true
def al5 (m:List Nat) (o:Oper):Bool:=match o.op,o.guard with
 | .call {callee:= .builtin .append,args, .. },none=>match args.toList with
   | .tmp t::_=>bf m t
   |_=>false
 |_,_=>false
def madeBy (m:List Nat) (o:Oper):List Nat:=match o.op,o.dst with
 | .buildSlice _ _ _,some d=>d::m
 | .call {callee:= .builtin .append, .. },some d=>d::m
 |_,_=>m
def Xq:List Nat→List Oper→Nat
 |_,[]=>0
 |m,o::r=>match ajh o.op||al5 m o with|true=>Xq (madeBy m o) r+1|false=>0
def Xr:List Nat→List Oper→Nat
 |_,[]=>0
 |m,o::r=>match ajh o.op||(al5 m o||Ba o.op) with|true=>Xr (madeBy m o) r+1|false=>0
def ak2 (m:List Nat) (o:Oper):List Nat:=match o.op,o.dst with
 | .call {callee:= .value (.func _), .. },some d=>d::m
 |_,_=>madeBy m o
def adR:List Nat→List Oper→Nat
 |_,[]=>0
 |m,o::r=>match ajh o.op||(al5 m o||Ba o.op) with|true=>adR (ak2 m o) r+1|false=>0
def Xt:Nat→List Oper→List (Nat×Nat)
 |_,[]=>[]
 |i,o::r=>match o.op with
  | .call {callee:= .builtin .append,args, .. }=>match args.toList with
    | .tmp t::_=>(i,t*64+1)::Xt (i+1) r
    |_=>Xt (i+1) r
  |_=>Xt (i+1) r
def anc (R:Reg):Bool:=R.A.all fun x=>match idxOf R.D (x.2 / 64) 0 with
 |some j=>(R.ms.getD x.1 0).testBit j
 |none=>false
theorem aji {e q:Nat}:∀ (A:List (Nat×Nat)),JO A e q=true→(e,q)∈A
 |[],h=>by cases h
 |(e',q')::r,h=>by
  rw [JO] at h
  split at h
  · next hb=>
    rw [Bool.and_eq_true] at hb
    rw [Nat.eq_of_beq_eq_true hb.1,Nat.eq_of_beq_eq_true hb.2]
    exact List.mem_cons_self
  · exact List.mem_cons_of_mem _ (aji r h)
theorem akn {R:Reg} (h:anc R=true) (e q:Nat) (hm:JO R.A e q=true):∃ j,idxOf R.D (q / 64) 0=some j∧(R.ms.getD e 0).testBit j=true:=by
 have:=List.all_eq_true.1 h _ (aji _ hm)
 split at this
 · next j hj=>exact ⟨j,hj,this⟩
 · cases this
def KJ:Nat→List Nat→Bool
 |_,[]=>true
 |i,m::r=>Nat.beq (m+1) (2 ^ i)&&KJ (i+1) r
def ane (t0:Nat) (ms:List Nat):List Nat:=(List.range t0).filter fun j=>!((ms.drop t0).all fun m=>m.testBit j)
def adS (ops:List Oper) (j i:Nat):Bool:=match ops[j]?,ops[i]? with
 |some f,some o=>passes f o
 |_,_=>false
def lateRow (ops:List Oper) (S:List Nat) (m i:Nat):Bool:=(List.range i).all fun j=>m.testBit j||(bf S j&&adS ops j i)
def ajj (ops:List Oper) (t0:Nat) (ms:List Nat) (S:List Nat):Bool:=
 (List.range ops.length).all fun i=>match Nat.ble t0 i with
   |true=>Nat.blt (ms.getD i 0) (2 ^ i)&&lateRow ops S (ms.getD i 0) i
   |false=>match bf S i with
    |true=>S.all fun j=>Nat.ble i j||((ms.getD i 0).testBit j||adS ops j i)
    |false=>true
def Ry (ops:List Oper) (t0:Nat) (ms:List Nat):Bool:=match KJ t0 (ms.drop t0) with
 |true=>true
 |false=>ajj ops t0 ms (ane t0 ms)
def front (l:List Oper):Nat:=match Ry l (Xq [] l) (masks l []) with
 |true=>Xq [] l
 |false=>match Ry l (Xr [] l) (masks l []) with|true=>Xr [] l|false=>adR [] l
def ajk (l:List Oper):Bool:=l.all fun o=>match o.guard with
 |some (g,_)=>match l[g]? with
  |some og=>og.dst.isSome
  |none=>false
 |none=>true
def ak3 (n:Nat) (l:List Oper):Bool:=l.all fun o=>match o.dst with|some d=>Nat.blt d n|none=>true
def adT (own:Nat→Bool):List Oper→List Nat
 |[]=>[]
 |o::r=>match aiQ o.op,o.dst with
  |true,some d=>match own d with|true=>adT own r|false=>d::adT own r
  |_,_=>adT own r
def afW (own:Nat→Bool) (l:List Oper) (s:St):St:=
 match adT own l with
 |[]=>s
 |z=>s.freeze fun o=>bf z (o / 64)&&!(Nat.beq (o%64) 0)
def Zo (d:Nat):List (Nat×Operand)→Bool
 |[]=>false
 |(_, .tmp t)::r=>Nat.beq t d||Zo d r
 |_::r=>Zo d r
def aqD (l:List Oper) (d:Nat):Bool:=l.any fun b=>match b.op,b.dst with
 | .build _ ps,some e=>Zo d ps.toList&&l.any fun c=>match c.op with| .buildSlice _ _ qs=>Zo e qs.toList|_=>false
 |_,_=>false
def TS (l0:List Oper):List Oper→List Nat
 |[]=>[]
 |o::r=>match Zn o.op,o.dst with
  |true,some d=>match aqD l0 d with|true=>d::TS l0 r|false=>TS l0 r
  |_,_=>TS l0 r
def apq (own:Nat→Bool) (l:List Oper):List Nat:=(adT own l++TS l l).filter fun d=>!((Xt 0 l).any fun x=>Nat.beq x.2 (d*64+1))
def sG (n:Nat) (own:Nat→Bool) (Γ:lF) (U:List Nat) (ops:List Oper):Reg:=⟨dstsOf n 0 (ops.take (front ops)),U,masks ops [],Rq Γ 0 (ops.take (front ops)),Xt 0 (ops.take (front ops)),n,apq own (ops.take (front ops))⟩
def PE (Θ:jC) (Γ:lF) (own:Nat→Bool) (U:List Nat) (ops:List Oper) (K:St→Prop) (st:St):Prop:=
 match nodup (sG st.n own Γ U ops).D&&(ak3 st.n (ops.take (front ops))&&(Ry ops (front ops) (sG st.n own Γ U ops).ms&&((sG st.n own Γ U ops).E.all (Gq (sG st.n own Γ U ops).ms (sG st.n own Γ U ops).E)&&(anc (sG st.n own Γ U ops)&&ajk ops)))) with
 |true=>wI Θ Γ (sG st.n own Γ U ops) (dJ (sG st.n own Γ U ops).D st) (fun path=>
   runs Θ Γ own ops K (ops.drop (front ops)) (afW own (ops.take (front ops)) (after (dJ (sG st.n own Γ U ops).D st) path fun _=>true))) 0 (ops.take (front ops)) []
 |false=>False
theorem ahq:∀ (m:List Nat) (l:List Oper),Xq m l≤l.length
 |_,[]=>Nat.le_refl _
 |m,o::r=>by
  rw [Xq]
  split
  · have:=ahq (madeBy m o) r
    rw [List.length_cons];omega
  · exact Nat.zero_le _
theorem ahr:∀ (m:List Nat) (l:List Oper),Xr m l≤l.length
 |_,[]=>Nat.le_refl _
 |m,o::r=>by
  rw [Xr]
  split
  · have:=ahr (madeBy m o) r
    rw [List.length_cons];omega
  · exact Nat.zero_le _
theorem ahs:∀ (m:List Nat) (l:List Oper),adR m l≤l.length
 |_,[]=>Nat.le_refl _
 |m,o::r=>by
  rw [adR]
  split
  · have:=ahs (ak2 m o) r
    rw [List.length_cons];omega
  · exact Nat.zero_le _
theorem aof (l:List Oper):front l≤l.length:=by
 unfold front
 split
 · exact ahq [] l
 · split
   · exact ahr [] l
   · exact ahs [] l
theorem ahR {l:List Oper} (h:ajk l=true) {i:Nat} {o:Oper} {g:Nat} {b:Bool} (ho:l[i]? =some o) (hg:o.guard=some (g,b)):∃ og d,l[g]? =some og∧og.dst=some d:=by
 have:=List.all_eq_true.1 h o (List.mem_of_getElem? ho)
 rw [hg] at this
 simp only at this
 split at this
 · next og hog=>
   obtain ⟨d,hd⟩:=Option.isSome_iff_exists.1 this
   exact ⟨og,d,hog,hd⟩
 · cases this
theorem ajl {n:Nat} {l:List Oper} (h:ak3 n l=true) {i:Nat} {o:Oper} {d:Nat} (ho:l[i]? =some o) (hd:o.dst=some d):d<n:=by
 have:=List.all_eq_true.1 h o (List.mem_of_getElem? ho)
 rw [hd] at this
 simpa [Nat.blt_eq] using this
theorem aa4:∀ {l:List Nat} {k:Nat},KJ k l=true→∀ i m,l[i]? =some m→m+1=2 ^ (k+i)
 |[],_,_,i,m,hm=>by simp at hm
 |x::r,k,h,0,m,hm=>by
  rw [KJ,Bool.and_eq_true] at h
  simp at hm;subst hm
  exact Nat.eq_of_beq_eq_true h.1
 |x::r,k,h,i+1,m,hm=>by
  rw [KJ,Bool.and_eq_true] at h
  have:=aa4 h.2 i m (by simpa using hm)
  rw [this];congr 1;omega
theorem Xu:∀ (l:List Oper) (acc:List Nat),(masks l acc).length=acc.length+l.length
 |[],acc=>by simp [masks]
 |o::r,acc=>by rw [masks,Xu r];simp;omega
theorem adU:∀ {l:List Nat},nodup l=true→∀ (i j:Nat) (x:Nat),l[i]? =some x→l[j]? =some x→i=j
 |[],_,i,j,x,hi,_=>by simp at hi
 |y::r,h,i,j,x,hi,hj=>by
  rw [nodup,Bool.and_eq_true] at h
  have hno:y ∉ r:=fun hm=>by have:=vV.2 hm;rw [this] at h;simp at h
  match i,j with
  |0,0=>rfl
  |0,j+1=>simp at hi hj;exact (hno (hi▸List.mem_of_getElem? hj)).elim
  |i+1,0=>simp at hi hj;exact (hno (hj▸List.mem_of_getElem? hi)).elim
  |i+1,j+1=>simp at hi hj;rw [adU h.2 i j x hi hj]
theorem MO {n:Nat}:∀ {l:List Oper} {k:Nat},(∀ (i:Nat) (o:Oper),l[i]? =some o→∃ d,vC n (k+i) o=some d)→∀ (i:Nat) (o:Oper) (d:Nat),l[i]? =some o→vC n (k+i) o=some d→(dstsOf n k l)[i]? =some d
 |[],_,_,i,o,d,hi,_=>by simp at hi
 |x::r,k,h,i,o,d,hi,hd=>by
  obtain ⟨e,he⟩:=h 0 x rfl
  rw [Nat.add_zero] at he
  rw [dstsOf,he]
  match i with
  |0=>simp at hi;subst hi;rw [Nat.add_zero,he] at hd;cases hd;rfl
  |i+1=>simp;exact MO (k:=k+1) (fun j o' hj=>by rw [show k+1+j=k+(j+1) by omega];exact h (j+1) o' (by simpa using hj)) i o d (by simpa using hi) (by rw [show k+1+i=k+(i+1) by omega];exact hd)
theorem ajm {ops:List Oper} {S:List Nat} {m i:Nat} (h:lateRow ops S m i=true) {j:Nat} (hj:j<i) {o f:Oper} (ho:ops[i]? =some o) (hf:ops[j]? =some f):m.testBit j=true∨(bf S j=true∧passes f o=true):=by
 have:=List.all_eq_true.1 h j (List.mem_range.2 hj)
 rw [Bool.or_eq_true,Bool.and_eq_true,adS,ho,hf] at this
 exact this
theorem Vo {ops:List Oper} {t0:Nat} {ms S:List Nat} (h:ajj ops t0 ms S=true) {i:Nat} {o:Oper} (ho:ops[i]? =some o):
 (t0≤i→ms.getD i 0<2 ^ i)∧∀ {j:Nat} {f:Oper},ops[j]? =some f→j<i→t0≤i∨(bf S i=true∧bf S j=true)→(ms.getD i 0).testBit j=true∨(bf S j=true∧passes f o=true):=by
 obtain ⟨hi,_⟩:=List.getElem?_eq_some_iff.1 ho
 have:=List.all_eq_true.1 h i (List.mem_range.2 hi)
 split at this
 · next hb=>
   rw [Bool.and_eq_true] at this
   exact ⟨fun _=>by simpa [Nat.blt_eq] using this.1,fun hf hj _=>ajm this.2 hj ho hf⟩
 · next hb=>
   have hlt:¬ t0≤i:=fun h'=>by rw [Nat.ble_eq_true_of_le h'] at hb;cases hb
   refine ⟨fun h'=>(hlt h').elim,fun {j f} hf hj h'=>?_⟩
   obtain ⟨h1,h2⟩:=h'.resolve_left hlt
   rw [h1] at this
   have:=List.all_eq_true.1 this j (vV.1 h2)
   rw [Bool.or_eq_true,Bool.or_eq_true,adS,ho,hf] at this
   rcases this with h3|h3|h3
   · have:=Nat.le_of_ble_eq_true h3;omega
   · exact .inl h3
   · exact .inr ⟨h2,h3⟩
theorem adV (L:Nat→Bool):∀ (n:Nat),((List.range n).filter fun i=>!(L i)).length=Ig L n
 |0=>rfl
 |n+1=>by
  rw [List.range_succ,List.filter_append,List.length_append,adV L n,Ig]
  cases h:L n
  · simp [h,Nat.add_comm]
  · simp [h]
theorem ajn (L:Nat→Bool) {t0:Nat} (h:∀ i,t0≤i→L i=false):∀ (n:Nat),t0≤n→Ig L n=Ig L t0+(n-t0)
 |0,hn=>by
  have:t0=0:=by omega
  subst this;rfl
 |n+1,hn=>by
  rcases Nat.lt_or_ge n t0 with h'|h'
  · have:t0=n+1:=by omega
    subst this;simp
  · rw [Ig,h n h',ajn L h n h']
    simp only;omega
structure Zp (Θ:jC) (Γ:lF) (w0:World) (M:Nat→Prop) (T:Ext) (st:St) (R:Reg) (ops:Array Oper) (t0:Nat) (listed:Array Bool) (path:List eU) (γ:Nat→Value) (a:Act) (w:World):Prop where
 way:Way R ops t0 path
 size:listed.size=ops.size
 tail:∀ i,t0≤i→listed.getD i false=false
 shut:∀ i j,listed.getD i false=true→((masks ops.toList []).getD i 0).testBit j=true→listed.getD j false=true
 ok:∀ j o x,ops[j]? =some o→path[j]? =some x→listed.getD j false=true→uI Θ Γ R (dJ R.D st) path j o x
 rel:Rel w0 M T γ (after (dJ R.D st) path fun i=>listed.getD i false) a w
theorem anf {G:kC} (hE:uG P G Θ Γ w0 M) {ops:Array Oper} {Q:Exit→Act→World→Prop} (hQ:∀ c a w,¬ Q (.panic c) a w) (hO:¬ LetsOut Q) {R:Reg} {t0:Nat} {K:List eU→Prop} (ht0:t0≤ops.size) (hms:R.ms=masks ops.toList [])
 (hRn:R.n=st.n) (hDn:∀ i o d,ops[i]? =some o→i<t0→o.dst=some d→d<st.n) (hgd:∀ i o g b,ops[i]? =some o→i<t0→o.guard=some (g,b)→∃ og d,ops[g]? =some og∧og.dst=some d) (hcmp:∀ e∈R.E,Gq R.ms R.E e=true) (hEi:∀ j o',ops[j]? =some o'→j<t0→Am Γ o'.op=true→j∈R.E)
 (hA:∀ e q,JO R.A e q=true→∃ j,idxOf R.D (q / 64) 0=some j∧(R.ms.getD e 0).testBit j=true)
 (TQ:∀ ext:List eU,ext.length≤t0→abT Θ Γ R (dJ R.D st) (ops.toList.take t0) ext→(ext.length=t0→K ext)∧∀ o,(ops.toList.take t0)[ext.length]? =some o→Enabled Θ Γ R (dJ R.D st) ext ext.length o)
 {S:Nat→Prop} (hfl:∀ i o j f,ops[i]? =some o→ops[j]? =some f→j<i→t0≤i∨(S i∧S j)→((masks ops.toList []).getD i 0).testBit j=true∨(S j∧passes f o=true)) (hS:∀ j,S j→j<t0)
 (hlt:∀ i o,ops[i]? =some o→(masks ops.toList []).getD i 0<2 ^ i)
 (hend:∀ path γ' a' w',K path→path.length=t0→Rel w0 M T γ' (after (dJ R.D st) path fun _=>true) a' w'→wpList P ops Q (ops.toList.drop t0) a' w'):
 ∀ (fuel:Nat) (listed:Array Bool) (path:List eU) (γ:Nat→Value) (a:Act) (w:World),Zp Θ Γ w0 M T st R ops t0 listed path γ a w→
   Ig (fun i=>listed.getD i false) ops.size≤fuel→wpAny P .any ops Q fuel listed a w:=by
 have Tt:(ops.toList.take t0).length=t0:=by simp;omega
 have hget:∀ j o,(ops.toList.take t0)[j]? =some o↔j<t0∧ops[j]? =some o:=fun j o=>by
  rcases Nat.lt_or_ge j t0 with h|h
  · rw [List.getElem?_take_of_lt h];simp [h]
  · rw [List.getElem?_eq_none (by rw [Tt];exact h)]
    constructor
    · intro h';cases h'
    · rintro ⟨h',_⟩;omega
 have fin:∀ (listed:Array Bool) (path:List eU) (γ:Nat→Value) (a:Act) (w:World),Zp Θ Γ w0 M T st R ops t0 listed path γ a w→
  (∀ i,i<t0→listed.getD i false=true)→wpList P ops Q (ops.toList.drop t0) a w:=by
  intro listed path γ a w I hdone
  have hR:=I.rel
  have hK:K path:=by
   refine (TQ path (by rw [I.way.len];exact Nat.le_refl _) fun i o x hi hx=>?_).1 I.way.len
   obtain ⟨h1,h2⟩:=(hget i o).1 hi
   exact I.ok i o x h2 hx (hdone i h1)
  have hsame:after (dJ R.D st) path (fun i=>listed.getD i false)=after (dJ R.D st) path fun _=>true:=by
   unfold after
   have:∀ (l:List eU) (j:Nat),j+l.length≤t0→pick l j (fun i=>listed.getD i false)=pick l j fun _=>true:=by
    intro l
    induction l with
    |nil=>intros;rfl
    |cons y l ih=>
     intro j hj
     rw [pick,pick]
     simp only [List.length_cons] at hj
     simp only [hdone j (by omega)]
     rw [ih (j+1) (by omega)]
   rw [this path 0 (by rw [I.way.len];omega)]
  rw [hsame] at hR
  exact hend path γ a w hK I.way.len hR
 have step:∀ (listed:Array Bool) (path:List eU) (γ:Nat→Value) (a:Act) (w:World),Zp Θ Γ w0 M T st R ops t0 listed path γ a w→∀ (i:Nat) (o:Oper),ops[i]? =some o→i<t0→listed.getD i false=false→
  (∀ j,((masks ops.toList []).getD i 0).testBit j=true→listed.getD j false=true)→∀ (K':Act→World→Prop),
  (∀ path' γ' a' w',Zp Θ Γ w0 M T st R ops t0 (listed.setIfInBounds i true) path' γ' a' w'→K' a' w')→wpOp P ops Q i K' a w:=by
  intro listed path γ a w I i o ho hit hil hsub K' hK'
  obtain ⟨W,hsz,htl,hcl,hok,hR⟩:=I
  have hen:Enabled Θ Γ R (dJ R.D st) path i o:=by
   obtain ⟨ext,g1,g2,g3⟩:=fill hE.toEnvB (R:=R) (base:=dJ R.D st) (front:=ops.toList.take t0) (path:=path) (L:=fun i=>listed.getD i false)
    (fun ext hc o' ho'=>(TQ ext (by
      obtain ⟨hlt',_⟩:=List.getElem?_eq_some_iff.1 ho'
      rw [Tt] at hlt';omega) hc).2 o' ho')
    (fun j o' x ho' hx hL=>hok j o' x ((hget j o').1 ho').2 hx hL) (by rw [W.len,Tt]) (fun j k hL hk=>hcl j k hL (by rw [← hms];exact hk)) i (by rw [Tt];omega)
   have:=(TQ ext (by omega) g2).2 o ((hget _ o).2 ⟨by omega,by rw [g1];exact ho⟩)
   rw [g1] at this
   refine this.agree fun j hj=>?_
   rw [hms] at hj
   have hji:j<i:=by
    rcases Nat.lt_or_ge j i with h|h
    · exact h
    · rw [pY (hlt i o ho) h] at hj;cases hj
   exact g3 j hji (hsub j hj)
  have hset:∀ j,(listed.setIfInBounds i true).getD j false=(if j=i then true else listed.getD j false):=by
   intro j
   split
   · next e=>subst e;simp [Array.getD,show j<listed.size by omega]
   · next e=>exact getD_set_ne false (Ne.symm e)
  refine aoc hE (L:=fun i=>listed.getD i false) (L':=fun j=>(listed.setIfInBounds i true).getD j false) W ht0 hit hRn hDn hgd hcmp hEi hA ho hen hok (fun j k hL hk=>hcl j k hL (by rw [← hms];exact hk)) (fun j hj=>hsub j (by rw [← hms];exact hj)) hil
   (by simp only [hset,if_true]) (fun j hj=>by simp only [hset,if_neg hj]) hR ?_
  intro x γ' a' w' ⟨y,hy,hxy⟩ hx hR'
  refine hK' (path.set i x) γ' a' w' ⟨W.set hy hxy,by simpa using hsz,?_,?_,?_,hR'⟩
  · intro j hj
    rw [hset,if_neg (by omega)];exact htl j hj
  · intro j k hj hk
    rw [hset] at hj ⊢
    split
    · rfl
    · split at hj
      · next e=>subst e;exact hsub k hk
      · exact hcl j k hj hk
  · intro j o' z ho' hz hL
    obtain ⟨arC,_⟩:=List.getElem?_eq_some_iff.1 hy
    by_cases e:j=i
    · subst e
      rw [List.getElem?_set_self arC] at hz
      cases hz
      rw [ho] at ho';cases ho'
      exact hx
    · rw [List.getElem?_set_ne (Ne.symm e)] at hz
      rw [hset,if_neg e] at hL
      refine (hok j o' z ho' hz hL).agree fun k hk=>?_
      have hLk:=hcl j k hL (by rw [← hms];exact hk)
      have hki:i≠k:=fun e=>by subst e;rw [hil] at hLk;cases hLk
      rw [List.getElem?_set_ne hki]
 have pend:∀ (F:List (Nat×Oper)) (listed:Array Bool) (path:List eU) (γ:Nat→Value) (a:Act) (w:World),Zp Θ Γ w0 M T st R ops t0 listed path γ a w→
  (∀ x∈F,ops[x.1]? =some x.2∧x.1<t0)→F.Pairwise (fun x y=>x.1<y.1)→(∀ i,i<t0→(listed.getD i false=true↔∀ x∈F,x.1≠i))→
  I9 P ops Q (Q .normal) (F.map (·.2)++ops.toList.drop t0) a w:=by
  intro F
  induction F with
  |nil=>
   intro listed path γ a w I _ _ hL
   rw [List.map_nil,List.nil_append,aa3]
   exact fin listed path γ a w I fun i hi=>(hL i hi).2 fun x hx=>by cases hx
  |cons x F ih=>
   intro listed path γ a w I hF hp hL
   obtain ⟨hx1,hx2⟩:=hF x List.mem_cons_self
   have hpx:=(List.pairwise_cons.1 hp).1
   have hun:listed.getD x.1 false=false:=by
    cases hb:listed.getD x.1 false with
    |false=>rfl
    |true=>exact ((hL x.1 hx2).1 hb x List.mem_cons_self rfl).elim
   refine (wpOp_step hx1).1 (step listed path γ a w I x.1 x.2 hx1 hx2 hun (fun j hj=>?_) _ fun path' γ' a' w' I'=>?_)
   · have hjx:j<x.1:=by
      rcases Nat.lt_or_ge j x.1 with h|h
      · exact h
      · rw [pY (hlt x.1 x.2 hx1) h] at hj;cases hj
     refine (hL j (by omega)).2 fun y hy=>?_
     rcases List.mem_cons.1 hy with rfl|hy
     · omega
     · have:=hpx y hy;omega
   · refine ih _ path' γ' a' w' I' (fun y hy=>hF y (List.mem_cons_of_mem _ hy)) (List.pairwise_cons.1 hp).2 fun i hi=>?_
     have hxs:x.1<listed.size:=by rw [I.size];exact (Array.getElem?_eq_some_iff.1 hx1).1
     by_cases e:i=x.1
     · subst e
       refine ⟨fun _ y hy=>by have:=hpx y hy;omega,fun _=>by simp [Array.getD,hxs]⟩
     · rw [getD_set_ne false (Ne.symm e),hL i hi]
       refine ⟨fun h y hy=>h y (List.mem_cons_of_mem _ hy),fun h y hy=>?_⟩
       rcases List.mem_cons.1 hy with rfl|hy
       · exact fun e'=>e e'.symm
       · exact h y hy
 have late:∀ (fuel:Nat) (listed:Array Bool) (path:List eU) (γ:Nat→Value) (a:Act) (w:World),Zp Θ Γ w0 M T st R ops t0 listed path γ a w→Ig (fun i=>listed.getD i false) ops.size≤fuel→
  (∀ i,i<t0→¬ S i→listed.getD i false=true)→wpAny P .any ops Q fuel listed a w:=by
  intro fuel listed path γ a w I hf hd
  have hcount:=ajn (fun i=>listed.getD i false) I.tail ops.size ht0
  have hlen:=adV (fun i=>listed.getD i false) t0
  have hmem:∀ x,x∈((List.range t0).filter fun i=>!(listed.getD i false)).map (fun i=>(i,(ops[i]?).getD default))↔∃ i,i<t0∧listed.getD i false=false∧(i,(ops[i]?).getD default)=x:=by
   intro x
   simp only [List.mem_map,List.mem_filter,List.mem_range,Bool.not_eq_true',and_assoc]
  have ap5:∀ i,i<t0→ops[i]? =some ((ops[i]?).getD default):=fun i hi=>by
   have:ops[i]? =some (ops[i]'(by omega)):=by simp
   rw [this];rfl
  have aoW:(((List.range t0).filter fun i=>!(listed.getD i false)).map (fun i=>(i,(ops[i]?).getD default))).Pairwise (fun x y=>x.1<y.1):=by
   rw [List.pairwise_map]
   exact (List.pairwise_lt_range (n:=t0)).filter _
  refine aod hQ hO hfl hS hlt fuel (((List.range t0).filter fun i=>!(listed.getD i false)).map (fun i=>(i,(ops[i]?).getD default))) (ops.toList.drop t0) t0 listed a w (Nat.le_refl _) ht0 (fun j=>by simp) I.size ?_ aoW ?_ I.shut ?_ ?_
  · intro x hx
    obtain ⟨i,h1,h2,rfl⟩:=(hmem x).1 hx
    refine ⟨ap5 i h1,Classical.byContradiction fun hno=>?_⟩
    have:=hd i h1 hno
    rw [h2] at this;cases this
  · intro i hi
    refine ⟨fun h=>⟨?_,fun x hx e=>?_⟩,fun ⟨h1,h2⟩=>?_⟩
    · rcases Nat.lt_or_ge i t0 with h'|h'
      · exact h'
      · rw [I.tail i h'] at h;cases h
    · obtain ⟨j,_,h2,rfl⟩:=(hmem x).1 hx
      subst e
      rw [h2] at h;cases h
    · cases hb:listed.getD i false with
      |true=>rfl
      |false=>exact (h2 _ ((hmem _).2 ⟨i,h1,hb,rfl⟩) rfl).elim
  · rw [List.length_map,hlen];omega
  · refine pend _ listed path γ a w I (fun x hx=>?_) aoW fun i hi=>⟨fun h x hx e=>?_,fun h=>?_⟩
    · obtain ⟨i,h1,_,rfl⟩:=(hmem x).1 hx
      exact ⟨ap5 i h1,h1⟩
    · obtain ⟨j,_,h2,rfl⟩:=(hmem x).1 hx
      subst e
      rw [h2] at h;cases h
    · cases hb:listed.getD i false with
      |true=>rfl
      |false=>exact (h _ ((hmem _).2 ⟨i,hi,hb,rfl⟩) rfl).elim
 intro fuel
 induction fuel with
 |zero=>
  intro listed path γ a w I hf
  have hall:∀ i,i<ops.size→listed.getD i false=true:=ajd (L:=fun i=>listed.getD i false) ops.size (by omega)
  exact late 0 listed path γ a w I hf fun i hi _=>hall i (by omega)
 |succ fuel ih=>
  intro listed path γ a w I hf
  by_cases hdone:∀ i,i<t0→¬ S i→listed.getD i false=true
  · exact late (fuel+1) listed path γ a w I hf hdone
  · obtain ⟨W,hsz,htl,hcl,hok,hR⟩:=id I
    have hex:∃ i,i<t0∧¬ S i∧listed.getD i false=false:=by
     refine Classical.byContradiction fun hno=>hdone fun i hi hn=>?_
     cases hl:listed.getD i false with
     |true=>rfl
     |false=>exact (hno ⟨i,hi,hn,hl⟩).elim
    obtain ⟨i1,hi1,hS1,hl1⟩:=hex
    obtain ⟨i0,hi0,hl0,hmin⟩:=least (p:=fun i=>listed.getD i false=false) t0 ⟨i1,hi1,hl1⟩
    have ang:i0∈Region.ready .any ops listed:=by
     have hisz:i0<ops.size:=by omega
     refine EK.2 ⟨ops[i0],by simp [hisz],by rw [Ih (by omega)];exact hl0,fun e he hb=>?_⟩
     have hoi:ops.toList[i0]? =some ops[i0]:=by simp [hisz]
     have adQ:=ahk hoi he hb
     have aoe:e.on<i0:=by
      rcases Nat.lt_or_ge e.on i0 with h|h
      · exact h
      · rw [pY (hlt i0 ops[i0] (by simp [hisz])) h] at adQ;cases adQ
     cases hl:listed.getD e.on false with
     |true=>rfl
     |false=>exact (hmin e.on aoe hl).elim
    refine ⟨fun h=>(by rw [h] at ang;cases ang),fun i hi=>?_⟩
    obtain ⟨o,ho,hn,hall⟩:=EK.1 hi
    obtain ⟨hisz,_⟩:=Array.getElem?_eq_some_iff.1 ho
    have hil:listed.getD i false=false:=by rw [← Ih (by omega)];exact hn
    have hsub:=Xp hcl ho hi
    have hit:i<t0:=by
     rcases Nat.lt_or_ge i t0 with h|h
     · exact h
     · have ho1:ops[i1]? =some (ops[i1]'(by omega)):=by simp
       rcases hfl i o i1 _ ho ho1 (by omega) (.inl h) with hb|hb
       · have:=hsub i1 hb;rw [hl1] at this;cases this
       · exact (hS1 hb.1).elim
    refine step listed path γ a w I i o ho hit hil hsub _ fun path' γ' a' w' I'=>ih _ path' γ' a' w' I' ?_
    have hset:∀ j,(listed.setIfInBounds i true).getD j false=(if j=i then true else listed.getD j false):=by
     intro j
     split
     · next e=>subst e;simp [Array.getD,show j<listed.size by omega]
     · next e=>exact getD_set_ne false (Ne.symm e)
    have:=ak0 (L:=fun i=>listed.getD i false) (L':=fun j=>(listed.setIfInBounds i true).getD j false) (i:=i) hil (by simp only [hset,if_true]) (fun j hj=>by simp only [hset,if_neg hj]) ops.size hisz
    omega
theorem aa5 {ops:Array Oper} {t0:Nat} (h:KJ t0 ((masks ops.toList []).drop t0)=true) {i:Nat} {o:Oper} (ho:ops[i]? =some o) (hi:t0≤i):(masks ops.toList []).getD i 0+1=2 ^ i:=by
 obtain ⟨hisz,_⟩:=Array.getElem?_eq_some_iff.1 ho
 have hml:(masks ops.toList []).length=ops.size:=by rw [Xu];simp
 have hg:((masks ops.toList []).drop t0)[i-t0]? =some ((masks ops.toList []).getD i 0):=by
  rw [List.getElem?_drop,show t0+(i-t0)=i by omega,List.getD_eq_getElem?_getD,List.getElem?_eq_getElem (by omega)]
  rfl
 have:=aa4 h _ _ hg
 rw [this];congr 1;omega
theorem amP {G:kC} (hE:uG P G Θ Γ w0 M) (hm:P.follows .mixedOrders=true) {own:Nat→Bool} {U:List Nat} {id:Nat} {ops:Array Oper} {K:St→Prop} {Q:Exit→Act→World→Prop} (h:Rel w0 M T γ st a w)
 (hr:PE Θ Γ own U ops.toList K st) (hn:∀ s γ' a' w',K s→Rel w0 M T γ' s a' w'→Q .normal a' w'):(Code.region id ops true).wp P Q a w:=by
 unfold PE at hr
 split at hr
 case h_2=>exact hr.elim
 next hb=>
 rw [Bool.and_eq_true,Bool.and_eq_true,Bool.and_eq_true,Bool.and_eq_true] at hb
 obtain ⟨hnd,hlt,htl,hcmp,aio⟩:=hb
 rw [Bool.and_eq_true] at aio
 obtain ⟨aio,apr⟩:=aio
 have ht0:front ops.toList≤ops.size:=by simpa using aof ops.toList
 have hfl:(ops.toList.take (front ops.toList)).length=front ops.toList:=by simp;omega
 have TQ:=fun (ext:List eU) (hle:ext.length≤front ops.toList) (hc:abT Θ Γ (sG st.n own Γ U ops.toList) (dJ (sG st.n own Γ U ops.toList).D st) (ops.toList.take (front ops.toList)) ext)=>
  aaW (ops.toList.take (front ops.toList)) [] [] ext rfl (by rw [hfl];exact hle) hr (by simpa using hc)
 simp only [List.nil_append,List.length_nil,Nat.zero_add,hfl] at TQ
 have hall:∃ ext:List eU,ext.length=front ops.toList∧abT Θ Γ (sG st.n own Γ U ops.toList) (dJ (sG st.n own Γ U ops.toList).D st) (ops.toList.take (front ops.toList)) ext:=by
  obtain ⟨ext,g1,g2,_⟩:=fill hE.toEnvB (R:=sG st.n own Γ U ops.toList) (base:=dJ (sG st.n own Γ U ops.toList).D st) (front:=ops.toList.take (front ops.toList)) (path:=List.replicate (front ops.toList) (skipped 0)) (L:=fun _=>false)
   (fun ext hc o' ho'=>(TQ ext (by
     obtain ⟨hlt',_⟩:=List.getElem?_eq_some_iff.1 ho'
     rw [hfl] at hlt';omega) hc).2 o' ho') (fun _ _ _ _ _ h=>by cases h) (by simp [hfl]) (fun _ _ h=>by cases h) (front ops.toList) (by rw [hfl];exact Nat.le_refl _)
  exact ⟨ext,g1,g2⟩
 obtain ⟨ap6,hl0,hc0⟩:=hall
 have anh:∀ i,i<front ops.toList→∃ o d,ops[i]? =some o∧(ops.toList.take (front ops.toList))[i]? =some o∧vC st.n i o=some d∧(sG st.n own Γ U ops.toList).ms.getD i 0<2 ^ i:=by
  intro i hi
  have ho:ops[i]? =some (ops[i]'(by omega)):=by simp
  have ho2:(ops.toList.take (front ops.toList))[i]? =some (ops[i]'(by omega)):=by rw [List.getElem?_take_of_lt hi];simp
  have hx:ap6[i]? =some (ap6[i]'(by omega)):=by simp
  obtain ⟨h1,h2,_⟩:=hc0 i _ _ ho2 hx
  exact ⟨_,_,ho,ho2,h1,h2⟩
 have hdst:∀ (i:Nat) (o:Oper),(ops.toList.take (front ops.toList))[i]? =some o→∃ d,vC st.n (0+i) o=some d:=by
  intro i o ho
  rw [Nat.zero_add]
  obtain ⟨hi,_⟩:=List.getElem?_eq_some_iff.1 ho
  obtain ⟨o',d,_,h2,h3,_⟩:=anh i (by omega)
  rw [ho] at h2;cases h2
  exact ⟨d,h3⟩
 have hbound:∀ i o,ops[i]? =some o→front ops.toList≤i→(masks ops.toList []).getD i 0<2 ^ i:=by
  intro i o ho hi
  unfold Ry at htl
  split at htl
  · next hb=>
    have:=aa5 (show KJ _ ((masks ops.toList []).drop _)=true from hb) ho hi
    omega
  · exact (Vo htl (by simpa using ho)).1 hi
 have aqE:∃ S:Nat→Prop,(∀ i o j f,ops[i]? =some o→ops[j]? =some f→j<i→front ops.toList≤i∨(S i∧S j)→((masks ops.toList []).getD i 0).testBit j=true∨(S j∧passes f o=true))∧∀ j,S j→j<front ops.toList:=by
  unfold Ry at htl
  split at htl
  · next hb=>
    refine ⟨fun _=>False,fun i o j f ho _ hj hi=> .inl ?_,fun _ h=>h.elim⟩
    rcases hi with hi|hi
    · have h1:=aa5 (show KJ _ ((masks ops.toList []).drop _)=true from hb) ho hi
      have h2:(masks ops.toList []).getD i 0=2 ^ i-1:=by omega
      rw [h2,Nat.testBit_two_pow_sub_one]
      simpa using hj
    · exact hi.1.elim
  · refine ⟨fun j=>bf (ane (front ops.toList) (sG st.n own Γ U ops.toList).ms) j=true,fun i o j f ho hf hj hi=>?_,fun j hj=>?_⟩
    · exact (Vo htl (by simpa using ho)).2 (by simpa using hf) hj hi
    · have:=vV.1 hj
      exact List.mem_range.1 (List.mem_filter.1 this).1
 obtain ⟨S,arD,hS⟩:=aqE
 let al6:List eU:=(ops.toList.take (front ops.toList)).mapIdx fun i o=>skipped ((vC st.n i o).getD 0)
 have hp0:∀ (i:Nat) (x:eU),al6[i]? =some x→∃ o,(ops.toList.take (front ops.toList))[i]? =some o∧vC st.n (0+i) o=some x.d:=by
  intro i x hx
  have hx:((ops.toList.take (front ops.toList)).mapIdx fun i o=>skipped ((vC st.n i o).getD 0))[i]? =some x:=hx
  rw [List.getElem?_mapIdx] at hx
  cases ho:(ops.toList.take (front ops.toList))[i]? with
  |none=>rw [ho] at hx;cases hx
  |some o=>
   rw [ho] at hx
   obtain ⟨d,hd⟩:=hdst i o ho
   cases hx
   rw [Nat.zero_add] at hd ⊢
   exact ⟨o,rfl,by simp [skipped,hd]⟩
 have W0:Way (sG st.n own Γ U ops.toList) ops (front ops.toList) al6:=by
  refine ⟨by show (List.mapIdx _ _).length=_;rw [List.length_mapIdx,hfl],fun i o x ho hx=>?_,fun x hx=>?_,fun i j x y hx hy hxy=>?_,fun i x hx=>?_⟩
  · obtain ⟨o',h1,h2⟩:=hp0 i x hx
    obtain ⟨hi,_⟩:=List.getElem?_eq_some_iff.1 h1
    rw [List.getElem?_take_of_lt (by omega)] at h1
    have:ops[i]? =some o':=by simpa using h1
    rw [ho] at this;cases this
    rw [Nat.zero_add] at h2
    exact h2
  · obtain ⟨i,hi⟩:=List.getElem?_of_mem hx
    obtain ⟨o',h1,h2⟩:=hp0 i x hi
    exact vV.2 (adO _ 0 i h1 h2)
  · obtain ⟨o1,h1,h2⟩:=hp0 i x hx
    obtain ⟨o2,h3,h4⟩:=hp0 j y hy
    have g1:=MO hdst i o1 x.d h1 h2
    have g2:=MO hdst j o2 y.d h3 h4
    rw [← hxy] at g2
    exact adU hnd i j x.d g1 g2
  · obtain ⟨o1,h1,h2⟩:=hp0 i x hx
    have:=aho _ 0 i x.d hnd (MO hdst i o1 x.d h1 h2)
    rw [Nat.zero_add] at this
    exact this
 refine Code.wp_mono (Q:=fun e a' w'=>match e with| .normal=>∃ s γ',K s∧Rel w0 M T γ' s a' w'|_=>False) (fun e a' w' he=>?_) ?_
 · cases e with
   |normal=>obtain ⟨s,γ',h1,h2⟩:=he;exact hn s γ' a' w' h1 h2
   |_=>exact he.elim
 refine wp_region_any hm ?_
 refine anf (w0:=w0) (M:=M) (T:=T) hE (fun _ _ _ h=>h) (fun ⟨_,_,h⟩=>h) (R:=sG st.n own Γ U ops.toList) (t0:=front ops.toList) ht0 rfl rfl ?_ (fun i o g b ho _ hg=>by
  obtain ⟨og,d,h1,h2⟩:=ahR apr (i:=i) (by simpa using ho) hg
  exact ⟨og,d,by simpa using h1,h2⟩) (fun e he=>List.all_eq_true.1 hcmp e he) ?_ (akn aio) TQ arD hS ?_ ?_ ops.size _ al6 γ _ _
  ⟨W0,by simp,?_,?_,?_,?_⟩ ?_
 · intro i o d ho hi hd
   exact ajl hlt (i:=i) (by rw [List.getElem?_take_of_lt hi];simpa using ho) hd
 · intro j o' ho' hj he
   have:=adP (Γ:=Γ) (ops.toList.take (front ops.toList)) 0 j o' (by rw [List.getElem?_take_of_lt hj];simpa using ho') he
   rw [Nat.zero_add] at this
   exact this
 · intro i o ho
   rcases Nat.lt_or_ge i (front ops.toList) with hi|hi
   · obtain ⟨_,_,_,_,_,h⟩:=anh i hi
     exact h
   · exact hbound i o ho hi
 · intro path γ' a' w' hK _ hR
   have aqF:Rel w0 M T γ' (afW own (ops.toList.take (front ops.toList)) (after (dJ (sG st.n own Γ U ops.toList).D st) path fun _=>true)) a' w':=by
    unfold afW
    split
    · exact hR
    · exact hR.freeze _
   exact Me hE (fun s γ' a' w' h1 h2=>⟨s,γ',h1,h2⟩) _ _ _ _ _ aqF hK
 · intro i _;simp [Array.getD]
 · intro i j hi;exfalso;simp [Array.getD] at hi
 · intro j o x _ _ hi;exfalso;simp [Array.getD] at hi
 · have:=(h.drew (w.drawn+1))|>fun h=>an9 h (sG st.n own Γ U ops.toList).D
   rw [alZ (fun i=>by simp [Array.getD])]
   exact this
 · have:∀ n,Ig (fun i=>(Array.replicate ops.size false).getD i false) n≤n:=by
    intro n
    induction n with
    |zero=>exact Nat.le_refl _
    |succ n ih=>rw [Ig];split<;>omega
   exact this _
end Go.Fw
