import Derived.Test.YtkogcnaellmcdaaGreatFwD
import Derived.Test.YtkogcnaellmcdaaGreatFwB
import Derived.Test.YtkogcnaellmcdaaGreatFwA
import Derived.ChangeArms
import Derived.WideKeyArgs
import Derived.ChangeSame
import Derived.ChangeOld
import Derived.Handed
import Derived.IntWalk
import Derived.ProofKit
namespace Go.Fw
open Go
variable {P:Program} {w0:World} {M:Nat->Prop} {T:Ext} {γ γ':Nat->Value} {st:St} {a:Act} {w w':World} {Θ:gI} {Γ:iT}
structure EJ where
 ahp:List QG
 c:Shape
 v:Shape
structure Hints where
 own:Nat->Bool
 loops:Nat->Option EJ
 cuts:Nat->Option EJ
 upd:List Nat
 frz:Nat->List Pre
def sO:Code->Option Nat
 |.region id _ _=>some id
 |.seq x y=>match sO x with|some n=>some n|none=>sO y
 |.cond _ x y=>match sO x with|some n=>some n|none=>sO y
 |.block _ x|.loop x=>sO x
 |_=>none
def cutAt(H:Hints)(y:Code):Option EJ:=match sO y with
 |some n=>H.cuts n
 |none=>none
def DU(Θ:gI)(Γ:iT)(H:Hints):Code->(Exit->St->Prop)->St->Prop
 |.skip,Q,st=>Q .normal st
 |.region id ops false,Q,st=>Ns (H.frz id) (runs Θ Γ H.own ops.toList (Q .normal) ops.toList) st
 |.region id ops true,Q,st=>Ns (H.frz id) (Js Θ Γ H.own H.upd ops.toList (Q .normal)) st
 |.seq x y,Q,st=>match cutAt H y with
  |none=>DU Θ Γ H x (λe s=>match e with|.normal=>DU Θ Γ H y Q s|e=>Q e s) st
  |some sp=>match sp.c.read (only sp.c sp.v st)with
   |some x0=>∃(J:sp.v.den->Prop),DU Θ Γ H x (λe s=>match e with
     |.normal=>match settles s sp.ahp with
      |some s1=>match Nat.beq s1.n st.n,sp.c.read (only sp.c sp.v s1),sp.v.read (only sp.c sp.v s1)with
       |true,some x1,some y1=>x1=x0/\J y1
       |_,_,_=>False
      |none=>False
     |e=>Q e s) st/\∀y1,J y1->DU Θ Γ H y Q (joint st.n sp.c sp.v x0 y1)
   |none=>False
 |.cond c x y,Q,st=>match st.ev c with
  |.sv (.one (.bool b))=>cond b (DU Θ Γ H x Q st) (DU Θ Γ H y Q st)
  |_=>False
 |.block id c,Q,st=>DU Θ Γ H c (λe s=>match e with
  |.exit i=>match Nat.beq i id with|true=>Q .normal s|false=>Q (.exit i) s
  |e=>Q e s) st
 |.exit id,Q,st=>Q (.exit id) st
 |.ret,Q,st=>Q .ret st
 |.loop c,Q,st=>match sO c with
  |some n=>match H.loops n with
   |some sp=>match settles st sp.ahp with
    |some s0=>match sp.c.read (only sp.c sp.v s0),sp.v.read (only sp.c sp.v s0)with
     |some x0,some y0=>∃(I:sp.v.den->Prop)(μ:sp.v.den->Nat),I y0/\∀y,I y->
       DU Θ Γ H c (λe s=>match e with
        |.normal=>match settles s sp.ahp with
         |some s1=>match Nat.beq s1.n s0.n,sp.c.read (only sp.c sp.v s1),sp.v.read (only sp.c sp.v s1)with
          |true,some x1,some y1=>x1=x0/\I y1/\μ y1<μ y
          |_,_,_=>False
         |none=>False
        |e=>Q e s) (joint s0.n sp.c sp.v x0 y)
     |_,_=>False
    |none=>False
   |none=>False
  |none=>False
 |_,_,_=>False
theorem QI{G:iP}(hE:oG P G Θ Γ w0 M)(hm:P.follows .mixedOrders=true)(H:Hints):∀(c:Code)(QA:Exit->St->Prop)(Q:Exit->Act->World->Prop)(st:St)(γ:Nat->Value)(a:Act)(w:World),
 Rel w0 M T γ st a w->DU Θ Γ H c QA st->(∀e s γ' a' w',QA e s->Rel w0 M T γ' s a' w'->Q e a' w')->c.wp P Q a w:=by
 intro c
 induction c with
 |skip=>intro QA Q st γ a w h ha hQ;exact wp_skip (hQ _ _ _ _ _ ha h)
 |region id ops d=>
  intro QA Q st γ a w h ha hQ;cases d with
  |false=>
   obtain⟨s0,γ0,h0,hk0⟩:=Ac (K:=runs Θ Γ H.own ops.toList (QA .normal) ops.toList) (H.frz id) st γ h ha
   grind [aeJ]
  |true=>
   obtain⟨s0,γ0,h0,hk0⟩:=Ac (K:=Js Θ Γ H.own H.upd ops.toList (QA .normal)) (H.frz id) st γ h ha
   grind [aiw]
 |seq x y ihx ihy=>
  intro QA Q st γ a w h ha hQ;rw[DU]at ha;split at ha
  .refine wp_seq (ihx _ _ st γ a w h ha ?_);intro e s γ' a' w' hq hR;cases e<;>first|exact ihy _ _ s γ' a' w' hR hq hQ|exact hQ _ _ _ _ _ hq hR
  .next sp hsp=>
   split at ha
   .next x0 hx=>
    obtain⟨J,h1,h2⟩:=ha;refine wp_seq (ihx _ _ st γ a w h h1 ?_);intro e s γ' a' w' hq hR;cases e with
    |normal=>
     simp only at hq;split at hq
     .next s1 hs1=>
      split at hq
      .next x1 y1 hsn hx1 hy1=>obtain⟨rfl,hJ⟩:=hq;obtain⟨γ1,hR1⟩:=Rel.settles _ hR hs1;have hR2:=hR1.joint hx1 hy1;rw[aps hsn]at hR2;exact ihy _ _ _ γ1 a' w' hR2 (h2 _ hJ) hQ
      grind
     grind
    |_=>exact hQ _ _ _ _ _ hq hR
   grind
 |cond c x y ihx ihy=>
  intro QA Q st γ a w h ha hQ;rw[DU]at ha;split at ha
  .next b hb=>
   have hv:a.eval c=.bool b:=by have:=fZ h c;rw[hb]at this;exact this
   grind [wp_cond_split]
  grind
 |block id c ih=>
  intro QA Q st γ a w h ha hQ;refine wp_block (ih _ _ st γ a w h ha ?_);intro e s γ' a' w' hq hR;cases e with
  |exit i=>
   simp only[Exit.inBlock];cases hb:Nat.beq i id with
   |true=>
    grind [Nat.eq_of_beq_eq_true]
   |false=>
    rw[if_neg (by rintro rfl;simp at hb)]
    grind
  |_=>exact hQ _ _ _ _ _ hq hR
 |loop c ih=>
  intro QA Q st γ a w h ha hQ;rw[DU]at ha;split at ha
  .split at ha
   .next sp hsp=>
    split at ha
    .next s0 hs0=>
     split at ha
     .next x0 y0 hx hy=>
      obtain⟨I,μ,h0,hI⟩:=ha;obtain⟨γ0,hR0⟩:=Rel.settles _ h hs0
      let J:sp.v.den->Act->World->Prop:=λy a' w'=>∃γ',Rel w0 M T γ' (joint s0.n sp.c sp.v x0 y) a' w'
      have key:∀(n:Nat)(y:sp.v.den),μ y=n->I y->∀a' w',J y a' w'->∀(b:Frame)(k:List Item)(cs:List Frame),
       ∃e a'' w'',Q e a'' w''/\Arrives P (lone (b.at a' (.code c:: .inLoop c::k)) cs w') b k cs e a'' w'':=by
       intro n
       induction n using Nat.strongRecOn with
       |_ n ihn=>
        intro y hμ hy' a' w' ⟨γ',hR⟩ b k cs;have hbody:=ih _ (Exit.then (λa2 w2=>∃y2,I y2/\μ y2<μ y/\J y2 a2 w2) Q) _ γ' a' w' hR (hI y hy') ?_
        .obtain⟨e,a1,w1,hq,harr⟩:=hbody b (.inLoop c::k) cs;cases e with
         |normal=>
          obtain⟨y2,hI2,hlt,hJ2⟩:=hq;obtain⟨e2,a2,w2,hq2,amm⟩:=ihn (μ y2) (hμ▸hlt) y2 rfl hI2 a1 w1 hJ2 b k cs;exact⟨e2,a2,w2,hq2,.of_steps (Steps.trans harr (.one step_inLoop)) amm⟩
         |exit id=>exact⟨_,a1,w1,hq,.pass (x:=.inLoop c) rfl (λ_ _=>.inl (by simp)) harr⟩
         |goto l=>exact⟨_,a1,w1,hq,.pass (x:=.inLoop c) rfl (λ_ _=>.inl (by simp)) harr⟩
         |ret=>exact⟨_,a1,w1,hq,.pass (x:=.inLoop c) rfl (λ_ _=>.inl (by simp)) harr⟩
         |panic ch=>exact⟨_,a1,w1,hq,.pass (x:=.inLoop c) rfl (λ_ _=>.inl (by simp)) harr⟩
         |outgrown=>exact⟨_,a1,w1,hq,.pass (x:=.inLoop c) rfl (λ_ _=>.inl (by simp)) harr⟩
        .intro e s γ2 a2 w2 hq hR2;cases e with
         |normal=>
          simp only at hq;split at hq
          .next s1 hs1=>
           split at hq
           .next x1 y1 hsn hx1 hy1=>obtain⟨rfl,hI1,hlt⟩:=hq;obtain⟨γ3,hR3⟩:=Rel.settles _ hR2 hs1;have hJ:=hR3.joint hx1 hy1;rw[aps hsn]at hJ;exact⟨y1,hI1,hlt,_,hJ⟩
           grind
          grind
         |_=>exact hQ _ _ _ _ _ hq hR2
      intro b k cs;obtain⟨e,a',w',hq,harr⟩:=key _ y0 rfl h0 a w ⟨_,hR0.joint hx hy⟩ b k cs;exact⟨e,a',w',hq,.of_steps (.one step_loop) harr⟩
     grind
    grind
   grind
  grind
 |rangeFunc f ps x y ihx ihy=>intro QA Q st γ a w h ha hQ;exact ha.elim
 |exit id=>intro QA Q st γ a w h ha hQ;exact wp_exit (hQ _ _ _ _ _ ha h)
 |scope c ih=>intro QA Q st γ a w h ha hQ;exact ha.elim
 |label l=>intro QA Q st γ a w h ha hQ;exact ha.elim
 |goto l=>intro QA Q st γ a w h ha hQ;exact ha.elim
 |ret=>intro QA Q st γ a w h ha hQ;exact wp_ret (hQ _ _ _ _ _ ha h)
 |refuse s=>intro QA Q st γ a w h ha hQ;exact ha.elim
def Arg.av:Arg->AV
 |.sv v=>.sv v
 |.kp cs=>.dI cs 0
 |.fn f caps=>.fn f caps
 |.own _ _ _|.ptr _=>.undef
def entry(n:Nat)(args:List Arg):St:=
 {n:=n,tmps:=λt=>match args[t]? with|some v=>v.av|none=>.undef,ah:=λ_=>none}
def Jt(st:St)(o:Nat):Bool:=match st.ah o with|some (.arr _ _ _ _)=>true|_=>false
def Yr(Θ:gI)(st:St):ResultVar->Option SV
 |.tmp t=>match st.tmps t with|.sv v=>some v|_=>none
 |.cell t ty=>match Θ ty,st.tmps t with
  |some ti,.dQ o off=>match st.ah o with
   |some (.var cs)=>jq ti cs off
   |_=>none
  |_,_=>none
def Ii(Θ:gI)(st:St):List ResultVar->Option (List SV)
 |[]=>some []
 |r::rs=>match Yr Θ st r,Ii Θ st rs with
  |some v,some vs=>some (v::vs)
  |_,_=>none
def outOf:SV->Bool×List dS
 |.one c=>(false,[.plain c])
 |.agg cs=>(true,cs.map .plain)
def outs:List SV->List (Bool×List dS)
 |[]=>[]
 |v::vs=>outOf (v.kill λ_=>true)::outs vs
def fin(Θ:gI)(rv:List ResultVar)(st:St):Option Out:=
 match Ii Θ (st.freeze (Jt st)) rv with
 |some vs=>some ⟨outs vs,none⟩
 |none=>none
theorem Ju:∀(k:Nat)(cs:List Cell),jl k (cs.map .plain)=(cs,[])
 |_,[]=>rfl
 |k,c::cs=>by simp only[apP,jl,Ju (k+1) cs,dS.take,aqe]
theorem af9(k:Nat)(v:SV):qW k (outOf v)=(v,[]):=by
 cases v with
 |one c=>rfl
 |agg cs=>simp only[qW,outOf,Ju]
theorem akV(v:Value)(t:TypeId)(b off:Nat)(hv:v=.pointer (some ⟨b,off,none⟩)):Instr.loadAt t v=(do loadVar t (← asAddr v)):=by subst hv;rfl
def FD(tmps:Array Value):ResultVar->Sem Value
 |.tmp t=>pure (tmps.getD t undef)
 |.cell x t=>do loadVar t (← asAddr (tmps.getD x undef))
theorem Nv(fn:Func)(tmps:Array Value):results fn tmps=(do let vs ← fn.results.mapM (FD tmps);pure (if h:vs.size=1 then vs[0]else .tuple vs)):=by congr 1
theorem aeL(hΘ:∀t ti,Θ t=some ti->jv P t ti)(h:Rel w0 M T γ st a w){r:ResultVar}{v:SV}(hf:Yr Θ st r=some v):
 ∃u,(FD a.tmps r).run P w=.ok u w/\dm (aj w0 T γ st w) v u:=by
 cases r with
 |tmp t=>
  simp only[Yr]at hf;split at hf
  .next e=>cases hf;have:=h.tmps t;rw[e]at this;exact⟨_,rfl,this⟩
  .cases hf
 |cell x t=>
  simp only[Yr]at hf;split at hf
  .next ti o off ht hx=>
   split at hf
   .next cs ho=>have hv:=h.tmps x;rw[hx]at hv;obtain⟨b,cs',_,_,hv'⟩:=hv;obtain⟨u,hu,hr⟩:=Jl hΘ h ht (x:=.tmp x) (.inl ⟨o,off,cs,hx,ho,hf⟩);refine⟨u,?_,hr⟩;rw[FD,← akV _ t b off hv'];exact hu
   .cases hf
  .cases hf
theorem Ij(hΘ:∀t ti,Θ t=some ti->jv P t ti)(h:Rel w0 M T γ st a w):∀(rs:List ResultVar)(vs:List SV),Ii Θ st rs=some vs->
 ∃us,(rs.mapM (FD a.tmps)).run P w=.ok us w/\
  dw (aj w0 T γ st w) vs us
 |[],vs,hf=>by cases hf;exact⟨[],rfl,trivial⟩
 |r::rs,vs,hf=>by
  rw[Ii]at hf;split at hf
  .next v vs' h1 h2=>
   cases hf;obtain⟨u,hu,hr⟩:=aeL hΘ h h1;obtain⟨us,hus,hrs⟩:=Ij hΘ h rs vs' h2;refine⟨u::us,?_,hr,hrs⟩
   simp_all
  .cases hf
theorem dw.length{X:V}:∀(cs:List SV)(vs:List Value),dw X cs vs->vs.length=cs.length
 |[],[],_=>rfl
 |_::cs,_::vs,⟨_,h⟩=>by simp[dw.length cs vs h]
 |[],_::_,H|_::_,[],H=>by cases H
theorem dw.get{X:V}:∀(cs:List SV)(vs:List Value)(i:Nat)(c:SV),dw X cs vs->cs[i]? =some c->∃v,vs[i]? =some v/\dm X c v
 |[],_,_,_,_,h=>by simp at h
 |c::cs,v::vs,0,d,⟨h1,_⟩,h=>by grind
 |c::cs,v::vs,i+1,d,⟨_,h2⟩,h=>by
  obtain⟨u,hu,hr⟩:=dw.get cs vs i d h2 (by simpa using h);exact⟨u,by simpa using hu,hr⟩
 |_::_,[],_,_,H,_=>by cases H
theorem kT.length{X:V}:∀(cs:List Arg)(vs:List Value),kT X cs vs->vs.length=cs.length
 |[],[],_=>rfl
 |_::cs,_::vs,⟨_,h⟩=>by simp[kT.length cs vs h]
 |[],_::_,H|_::_,[],H=>by cases H
theorem kT.get{X:V}:∀(cs:List Arg)(vs:List Value)(i:Nat)(c:Arg),kT X cs vs->cs[i]? =some c->∃v,vs[i]? =some v/\mY X c v
 |[],_,_,_,_,h=>by simp at h
 |c::cs,v::vs,0,d,⟨h1,_⟩,h=>by grind
 |c::cs,v::vs,i+1,d,⟨_,h2⟩,h=>by
  obtain⟨u,hu,hr⟩:=kT.get cs vs i d h2 (by simpa using h);exact⟨u,by simpa using hu,hr⟩
 |_::_,[],_,_,H,_=>by cases H
theorem mY.av{X:V}:∀(c:Arg)(v:Value),mY X c v->aP X c.av v
 |.sv _,_,h|.kp _,_,h|.fn _ _,_,h=>h
 |.own _ _ _,_,h|.ptr _,_,h=>h.elim
theorem aix{args:List Arg}{vs:Array Value}{S:Nat->Prop}(n:Nat)(hn:args.length<=n)
 (h:kT ⟨w,w.heap.size,S,λ_=>undef,λ_=>none⟩ args vs.toList):
 Rel w (λ_=>False) ⟨S,λ_=>none,λ_ _ h=>by cases h⟩ (λ_=>undef) (entry n args) {tmps:=vs++Array.replicate (n-vs.size) undef,defers:=[]} w:=by
 have hl:vs.size=args.length:=by simpa using kT.length _ _ h
 refine⟨λ_ h=>h.elim,rfl,?_,rfl,rfl,rfl,apz _,λ_ _ _=>rfl,λt=>?_,(λo x hx=>by cases hx),(λo x b hx=>by cases hx),(λo x p y b hx=>by cases hx),(λo v cs hN=>by cases hN)⟩
 · grind [entry]
 .simp only[entry];cases ha:args[t]? with
  |none=>trivial
  |some v=>
   obtain⟨u,hu,hr⟩:=kT.get _ _ t v h ha;have:(vs++Array.replicate (n-vs.size) undef).getD t undef=u:=by
    have hlt:t<args.length:=by
     grind
    simp_all [arq]
   grind [mY.av]
end Go.Fw
namespace Go.Fw
def codeOf(fn:Func):Code:=match fn.body with|some c=>c|none=>.skip
def Yt:List (Nat×TI)->gI
 |[],_=>none
 |(t,x)::r,i=>match Nat.beq i t with|true=>some x|false=>Yt r i
def EX:List (Nat×Dy)->iT
 |[],_=>none
 |(t,x)::r,i=>match Nat.beq i t with|true=>some x|false=>EX r i
def ahq:List (Nat×EJ)->Nat->Option EJ
 |[],_=>none
 |(t,x)::r,i=>match Nat.beq i t with|true=>some x|false=>ahq r i
def aks:List (Nat×List Pre)->Nat->List Pre
 |[],_=>[]
 |(n,z)::r,i=>match Nat.beq i n with|true=>z|false=>aks r i
def hints(own:List Nat)(l c:List (Nat×EJ))(u:List Nat)(z:List (Nat×List Pre)):Hints:=⟨aN own,ahq l,ahq c,u,aks z⟩
end Go.Fw
namespace Go.Fw
open Go
variable {P:Program} {Θ:gI} {Γ:iT}
inductive kD where
 |one (c:dX)
 |agg (l:List dX)
@[reducible] def kD.den:kD->Type
  |.one c=>c.den
  |.agg l=>jG l
def kD.val:(s:kD)->s.den->SV
 |.one c,x=>.one (c.cell x)
 |.agg l,x=>.agg (fJ l x)
def kD.read:(s:kD)->SV->Option s.den
 |.one c,.one x=>c.read x
 |.agg l,.agg xs=>iJ l xs
 |_,_=>none
theorem kD.weak{X:V}(s:kD)(x:SV)(d:s.den)(v:Value)(hr:s.read x=some d)(hv:dm X x v):dm X (s.val d) v:=by
 unfold kD.read at hr;split at hr
 .exact dX.weak _ _ _ _ hr hv
 .obtain⟨vs,e,h⟩:=hv;exact⟨vs,e,Bl _ _ _ _ hr h⟩
 .cases hr
@[reducible] def o5:List kD->Type
  |[]=>Unit
  |s::r=>s.den×o5 r
def rV:(l:List kD)->o5 l->List SV
 |[],_=>[]
 |s::r,x=>s.val x.1::rV r x.2
def Lh:(l:List kD)->List SV->Option (o5 l)
 |[],[]=>some ()
 |s::r,x::xs=>match s.read x,Lh r xs with
  |some a,some b=>some (a,b)
  |_,_=>none
 |_,_=>none
theorem aiy{X:V}:∀(l:List kD)(xs:List SV)(d:o5 l)(vs:List Value),Lh l xs=some d->dw X xs vs->dw X (rV l d) vs
 |[],[],_,_,_,hv=>hv
 |s::r,x::xs,d,vs,hr,hv=>by
  rw[Lh]at hr;split at hr
  .next a b h1 h2=>
   cases hr;cases vs with
   |nil=>cases hv
   |cons v vs=>exact⟨kD.weak s x a v h1 hv.1,aiy r xs b vs h2 hv.2⟩
  .cases hr
 |[],_::_,_,_,hr,_=>by grind [Lh]
 |_::_,[],_,_,hr,_=>by grind [Lh]
mutual
def CT.oU:(c:CT)->c.den->Prop
 |.int k,(n:Int)=>k.min<=n/\n<=k.max
 |.bool,_=>True
 |.str,(s:Bytes)=>s.length<=maxLen
 |.sl _ r,(l:List r.den)=>l.length<=maxLen/\∀x∈l,r.oU x
def ak.oU:(r:ak)->r.den->Prop
 |.nil,_=>True
 |.cons c r,x=>c.oU x.1/\r.oU x.2
end
mutual
theorem fM.oU{h:Array Obj}{S:Nat->Prop}:∀(c:CT)(v:Value)(x:c.den),fM h S c v x->c.oU x
 |.int k,v,(n:Int),H=>by rw[fM]at H;rw[CT.oU];exact H.2
 |.bool,v,(b:Bool),H=>by rw[CT.oU];trivial
 |.str,v,(s:Bytes),H=>by rw[fM]at H;rw[CT.oU];exact H.2
 |.sl e r,v,(l:List r.den),H=>by
  rw[fM]at H;rw[CT.oU];refine⟨H.1,λx hx=>?_⟩;obtain⟨i,hi,rfl⟩:=arb.1 hx;rcases H.2 with⟨hnil,_⟩|⟨b,off,cap,cs,t,fz,_,_,_,_,hr⟩
  .subst hnil;simp at hi
  .exact aZ.oU r _ _ (hr i _ (apw hi))
theorem aZ.oU{h:Array Obj}{S:Nat->Prop}:∀(r:ak)(vs:List Value)(x:r.den),aZ h S r vs x->r.oU x
 |.nil,vs,_,H=>by rw[ak.oU];trivial
 |.cons c r,vs,(x,y),H=>by rw[aZ]at H;obtain⟨v,vs',_,h1,h2⟩:=H;rw[ak.oU];exact⟨fM.oU c v x h1,aZ.oU r vs' y h2⟩
end
def dX.oU:(c:dX)->c.den->Prop
 |.int k,(n:Int)=>k.min<=n/\n<=k.max
 |.str,(s:Bytes)=>s.length<=maxLen
 |.sl _ r _,(l:List r.den)=>l.length<=maxLen/\∀x∈l,r.oU x
 |_,_=>True
def TN:(l:List dX)->jG l->Prop
 |[],_=>True
 |c::r,x=>c.oU x.1/\TN r x.2
def kD.oU:(s:kD)->s.den->Prop
 |.one c,x=>c.oU x
 |.agg l,x=>TN l x
theorem dX.TP{X:V}(c:dX)(x:c.den)(v:Value)(h:aK X (c.cell x) v):c.oU x:=by
 cases c with
 |int k=>exact h.2
 |str=>exact h.2
 |sl e r fr=>
  have h':fM X.w.heap (X.bI fr) (.sl e r) v x:=h;have:=fM.oU (.sl e r) v x h';exact this
 |_=>trivial
theorem FH{X:V}:∀(l:List dX)(x:jG l)(vs:List Value),ai X (fJ l x) vs->TN l x
 |[],_,_,_=>trivial
 |c::r,x,v::vs,h=>⟨dX.TP c x.1 v h.1,FH r x.2 vs h.2⟩
 |_::_,_,[],h=>by cases h
inductive fC where
 |v (s:kD)
 |kp (l:List dX)
 |fn (f:FuncId) (l:List (List dX))
@[reducible] def fC.den:fC->Type
  |.v s=>s.den
  |.kp l=>jG l
  |.fn _ l=>xC l
def fC.val:(s:fC)->s.den->Arg
 |.v s,x=>.sv (s.val x)
 |.kp l,x=>.kp (fJ l x)
 |.fn f l,x=>.fn f (FB l x)
def fC.read:(s:fC)->Arg->Option s.den
 |.v s,.sv x=>s.read x
 |.kp l,.kp xs=>iJ l xs
 |.fn f l,.fn g xs=>match Nat.beq f g with|true=>CU l xs|false=>none
 |_,_=>none
theorem fC.weak{X:V}(s:fC)(x:Arg)(d:s.den)(v:Value)(hr:s.read x=some d)(hv:mY X x v):mY X (s.val d) v:=by
 unfold fC.read at hr;split at hr
 .exact kD.weak _ _ _ _ hr hv
 .obtain⟨b,e,hk⟩:=hv;exact⟨b,e,acK hr hk⟩
 .split at hr
  .next hb=>obtain⟨us,e,hk⟩:=hv;rw[fC.val,aps hb];exact⟨us,e,QE _ _ _ _ hr hk⟩
  .cases hr
 .cases hr
@[reducible] def jB:List fC->Type
  |[]=>Unit
  |s::r=>s.den×jB r
def qj:(l:List fC)->jB l->List Arg
 |[],_=>[]
 |s::r,x=>s.val x.1::qj r x.2
def DV:(l:List fC)->List Arg->Option (jB l)
 |[],[]=>some ()
 |s::r,x::xs=>match s.read x,DV r xs with
  |some a,some b=>some (a,b)
  |_,_=>none
 |_,_=>none
theorem aeM{X:V}:∀(l:List fC)(xs:List Arg)(d:jB l)(vs:List Value),DV l xs=some d->kT X xs vs->kT X (qj l d) vs
 |[],[],_,_,_,hv=>hv
 |s::r,x::xs,d,vs,hr,hv=>by
  rw[DV]at hr;split at hr
  .next a b h1 h2=>
   cases hr;cases vs with
   |nil=>cases hv
   |cons v vs=>exact⟨fC.weak s x a v h1 hv.1,aeM r xs b vs h2 hv.2⟩
  .cases hr
 |[],_::_,_,_,hr,_=>by grind [DV]
 |_::_,[],_,_,hr,_=>by grind [DV]
theorem OY:∀(l:List fC)(d:jB l),(qj l d).length=l.length
 |[],_=>rfl
 |_::r,d=>by simp[qj,OY r d.2]
def aa6:(l:List (List dX))->xC l->Prop
 |[],_=>True
 |c::r,x=>TN c x.1/\aa6 r x.2
def fC.oU:(s:fC)->s.den->Prop
 |.v s,x=>s.oU x
 |.kp l,x=>TN l x
 |.fn _ l,x=>aa6 l x
def GI:(l:List fC)->jB l->Prop
 |[],_=>True
 |s::r,x=>s.oU x.1/\GI r x.2
theorem Va{X:V}:∀(l:List (List dX))(x:xC l)(us:List Value),dL X (FB l x) us->aa6 l x
 |[],_,_,_=>trivial
 |c::r,x,u::us,h=>by
  obtain⟨⟨b,hu,arr,t,fz,hf,hh,hc⟩,h2⟩:=h;exact⟨FH c x.1 _ hc,Va r x.2 us h2⟩
 |_::_,_,[],h=>by cases h
theorem yY{X:V}:∀(l:List fC)(x:jB l)(vs:List Value),kT X (qj l x) vs->GI l x
 |[],_,_,_=>trivial
 |.v (.one c)::r,x,v::vs,h=>⟨dX.TP c x.1 v h.1,yY r x.2 vs h.2⟩
 |.v (.agg l)::r,x,v::vs,h=>by
  obtain⟨ws,hv,hc⟩:=h.1;exact⟨FH l x.1 _ hc,yY r x.2 vs h.2⟩
 |.kp l::r,x,v::vs,h=>by
  obtain⟨b,hu,arr,t,fz,hf,hh,hc⟩:=h.1;exact⟨FH l x.1 _ hc,yY r x.2 vs h.2⟩
 |.fn f l::r,x,v::vs,h=>by
  obtain⟨us,hv,hk⟩:=h.1;exact⟨Va l x.1 _ hk,yY r x.2 vs h.2⟩
 |_::_,_,[],h=>by cases h
def Fa(sh:List fC)(F:jB sh->Prop×Out):KX:=λargs=>
 match DV sh args with
 |some x=>some (F x)
 |none=>none
def Ae:List SV->List (Bool×List dS)
 |[]=>[]
 |v::vs=>outOf v::Ae vs
theorem Lj:∀(k:Nat)(vs:List SV),fV k (Ae vs)=(vs,[])
 |_,[]=>rfl
 |k,v::vs=>by simp only[Ae,fV,af9,Lj,aqe]
def Yu(Θ:gI)(rv:List ResultVar)(dB:List kD)(K:o5 dB->Prop)(e:Exit)(st:St):Prop:=
 match e with
 |.normal|.ret=>match Ii Θ (st.freeze (Jt st)) rv with
  |some vs=>match Lh dB (vs.map (SV.kill λ_=>true))with
   |some d=>K d
   |none=>False
  |none=>False
 |_=>False
theorem akW{G:iP}(hE:EnvB P G Θ Γ)(hm:P.follows .mixedOrders=true){f:FuncId}{fn:Func}{c:Code}(hf:P.funcs[f]? =some fn)(hb:fn.body=some c)(H:Hints){con:KX}{dB:List kD}
 (hwalk:∀args p out,con args=some (p,out)->p->Nat.ble args.length fn.ntmps=true/\∃d:o5 dB,out=⟨Ae (rV dB d),none⟩/\DU Θ Γ H c (Yu Θ fn.results.toList dB λy=>y=d) (entry fn.ntmps args)):lV P G f con:=by
 intro args p out k S vs w hcon hp hG hrep;obtain⟨hn,d,hout,hw⟩:=hwalk args p out hcon hp;subst hout;have hn':args.length<=fn.ntmps:=by simp_all
 refine calls_of_wp hf hb (QI ⟨hE,hG,λb hb=>hb.elim⟩ hm H c _ _ _ _ _ _ (aix (S:=S) fn.ntmps hn' hrep) hw ?_);have hret:∀s γ' a' w',Yu Θ fn.results.toList dB (λy=>y=d) .ret s->Rel w (λ_=>False) ⟨S,λ_=>none,λ_ _ h=>by cases h⟩ γ' s a' w'->bodyPost P fn (λe w'=>∃v vals,e=.returned v/\w'.os=w.os/\w'.tape=w.tape/\w'.output=w.output/\w.heap.size<=w'.heap.size/\
  (∀b,b<w.heap.size->w'.heap[b]? =w.heap[b]?)/\
  aP ⟨w',w.heap.size,S,vals,look (Out.take k ⟨Ae (rV dB d),none⟩).2⟩ (Out.take k ⟨Ae (rV dB d),none⟩).1 v/\
  (∀o x,look (Out.take k ⟨Ae (rV dB d),none⟩).2 o=some x->bg ⟨w',w.heap.size,S,vals,look (Out.take k ⟨Ae (rV dB d),none⟩).2⟩ o x/\∀b,blk (vals o)=some b->w.heap.size<=b/\b<w'.heap.size)/\
  (∀o x q y b,look (Out.take k ⟨Ae (rV dB d),none⟩).2 o=some x->look (Out.take k ⟨Ae (rV dB d),none⟩).2 q=some y->o≠q->blk (vals o)=some b->blk (vals q)≠some b)) .ret a' w':=by
  intro s γ' a' w' he hR;refine⟨hR.defers,?_⟩;simp only[Yu]at he;split at he
  .next svs hvs=>
   split at he
   .next y hy=>
    subst he;have hRf:=hR.freeze (Jt s);obtain⟨us,hus,hrs⟩:=Ij hE.types hRf _ _ hvs;have hk0:=dw.kill (λ_=>true) hRf svs us hrs;have hk:=aiy dB _ y us hy hk0;have htake:Out.take k ⟨Ae (rV dB y),none⟩=(match rV dB y with|[v]=>.sv v|l=>.kE l,[]):=by
     grind [Out.take,Lj]
    have hmap:(fn.results.mapM (FD a'.tmps)).run P w'=.ok us.toArray w':=by
     simp_all [arv]
    refine⟨if h:us.toArray.size=1 then us.toArray[0]else .tuple us.toArray,?_,_,γ',rfl,hR.os,hR.tape,hR.output,hR.grow,λb hb=>hR.kept b hb (λh=>h),?_,?_,?_⟩
    .rw[Nv,apS,hmap]
     simp_all
    .rw[htake];have hl:=dw.length _ _ hk
     match hm:rV dB y,us,hk,hl with
     |[v],[u],hk,_=>exact hk.1
     |[],[],hk,_=>exact⟨_,by simp,hk⟩
     |v::v2::r,u::u2::us,hk,hl=>exact⟨_,by simp,hk⟩
     |[],_::_,hk,h4|_::_,[],hk,h4|[_],_::_::_,hk,h4|_::_::_,[_],hk,h4=>simp at h4
    .intro o x hx;rw[htake]at hx;cases hx
    .intro o x q y b hx;rw[htake]at hx;cases hx
   grind
  grind
 intro e s γ' a' w' he hR;cases e with
 |normal=>exact hret s γ' a' w' he hR
 |ret=>grind
 |_=>exact he.elim
def xO(sh:List fC)(dB:List kD)(F:jB sh->Prop×o5 dB):KX:=Fa sh λx=>((F x).1,⟨Ae (rV dB (F x).2),none⟩)
theorem aa7{G:iP}(hE:EnvB P G Θ Γ)(hm:P.follows .mixedOrders=true){f:FuncId}{fn:Func}{c:Code}(hf:P.funcs[f]? =some fn)(hb:fn.body=some c)(H:Hints)
 {sh:List fC} {dB:List kD} {F:jB sh->Prop×o5 dB} (hn:Nat.ble sh.length fn.ntmps=true)
 (hwalk:∀x,GI sh x->(F x).1->DU Θ Γ H c (Yu Θ fn.results.toList dB λy=>y=(F x).2) (entry fn.ntmps (qj sh x))):lV P G f (xO sh dB F):=by
 have base:∀x,GI sh x->lV P G f (λargs=>@ite _ (args=qj sh x) (Classical.propDecidable _) (some ((F x).1,⟨Ae (rV dB (F x).2),none⟩)) none):=by
  intro x hin;refine akW (dB:=dB) hE hm hf hb H ?_
  grind [OY]
 intro args p out k S vs w hcon hp hG hrep;unfold xO Fa at hcon;split at hcon
 .next x hx=>have hv:=aeM sh args x vs.toList hx hrep;exact base x (yY sh x _ hv) (qj sh x) p out k S vs w (by grind) hp hG hv
 .cases hcon
inductive RC where
 |c (s:dX)
 |own (e:TypeId) (r:ak) (fr:Bool)
@[reducible] def RC.den:RC->Type
  |.c s=>s.den
  |.own _ r _=>List r.den
@[reducible] def Yv:List RC->Type
  |[]=>Unit
  |c::r=>c.den×Yv r
def RC.ahr:(c:RC)->c.den->dS
 |.c s,x=>.plain (s.cell x)
 |.own e r fr,l=>.own e r l fr
def aa8:(l:List RC)->Yv l->List dS
 |[],_=>[]
 |c::r,x=>c.ahr x.1::aa8 r x.2
inductive kN where
 |one (c:RC)
 |agg (l:List RC)
@[reducible] def kN.den:kN->Type
  |.one c=>c.den
  |.agg l=>Yv l
@[reducible] def xZ:List kN->Type
  |[]=>Unit
  |s::r=>s.den×xZ r
def kN.out:(s:kN)->s.den->Bool×List dS
 |.one c,x=>(false,[c.ahr x])
 |.agg l,x=>(true,aa8 l x)
def gQ:(l:List kN)->xZ l->List (Bool×List dS)
 |[],_=>[]
 |s::r,x=>s.out x.1::gQ r x.2
def RC.name:RC->Cell->Option Nat
 |.own _ _ _,.ref o=>some o
 |_,_=>none
def aa9:List RC->List Cell->List (Option Nat)
 |c::r,x::xs=>c.name x::aa9 r xs
 |_,_=>[]
def kN.names:kN->SV->List (Option Nat)
 |.one c,.one x=>[c.name x]
 |.agg l,.agg xs=>aa9 l xs
 |_,_=>[]
def xE:List kN->List SV->List (Option Nat)
 |s::r,x::xs=>s.names x++xE r xs
 |_,_=>[]
def RC.read(st:St):(c:RC)->Cell->Option c.den
 |.c s,x=>match x.refs with|[]=>s.read x|_=>none
 |.own e r fr,.ref o=>match st.ah o with
  |some (.arr f s l g)=>match Nat.beq e f&&Ih fr g with
   |true=>if h:s.beq r=true then some (pW h l)else none
   |false=>none
  |_=>none
 |.own _ r _,.nil=>match Nat.ble 1 r.len with|true=>some []|false=>none
 |_,_=>none
def Ll(st:St):(l:List RC)->List Cell->Option (Yv l)
 |[],[]=>some ()
 |c::r,x::xs=>match c.read st x,Ll st r xs with
  |some a,some b=>some (a,b)
  |_,_=>none
 |_,_=>none
def kN.read(st:St):(s:kN)->SV->Option s.den
 |.one c,.one x=>c.read st x
 |.agg l,.agg xs=>Ll st l xs
 |_,_=>none
def yZ(st:St):(l:List kN)->List SV->Option (xZ l)
 |[],[]=>some ()
 |s::r,x::xs=>match s.read st x,yZ st r xs with
  |some a,some b=>some (a,b)
  |_,_=>none
 |_,_=>none
inductive gJ where
 |p (s:fC)
 |own (e:TypeId) (r:ak)
 |ptr (l:List dX)
@[reducible] def gJ.den:gJ->Type
  |.p s=>s.den
  |.own _ r=>List r.den
  |.ptr l=>jG l
def gJ.mode:gJ->Mode
 |.p _=>.val
 |.own _ _=>.own
 |.ptr _=>.ptr
def gJ.val:(s:gJ)->s.den->Arg
 |.p s,x=>s.val x
 |.own e r,l=>.own e r l
 |.ptr l,x=>.ptr (fJ l x)
def gJ.read:(s:gJ)->Arg->Option s.den
 |.p s,x=>s.read x
 |.own e r,.own f s l=>match Nat.beq e f with
  |true=>if h:s.beq r=true then some (pW h l)else none
  |false=>none
 |.ptr l,.ptr cs=>iJ l cs
 |_,_=>none
@[reducible] def lI:List gJ->Type
  |[]=>Unit
  |s::r=>s.den×lI r
def rW:(l:List gJ)->lI l->List Arg
 |[],_=>[]
 |s::r,x=>s.val x.1::rW r x.2
def jJ:(l:List gJ)->List Arg->Option (lI l)
 |[],[]=>some ()
 |s::r,x::xs=>match s.read x,jJ r xs with
  |some a,some b=>some (a,b)
  |_,_=>none
 |_,_=>none
@[reducible] def vw:List gJ->Type
  |[]=>Unit
  |.ptr l::r=>jG l×vw r
  |.p _::r|.own _ _::r=>vw r
def je:(l:List gJ)->vw l->List Eff
 |[],_=>[]
 |.ptr l::r,x=>.var (fJ l x.1)::je r x.2
 |.p _::r,x|.own _ _::r,x=>.lose::je r x
def FI(st:St):(i:Nat)->(l:List gJ)->Option (vw l)
 |_,[]=>some ()
 |i,.ptr l::r=>match st.ah (i*64+48),FI st (i+1) r with
  |some (.var cs),some b=>match cs.flatMap Cell.refs,iJ l cs with
   |[],some a=>some (a,b)
   |_,_=>none
  |_,_=>none
 |i,.p _::r|i,.own _ _::r=>FI st (i+1) r
def Arg.avX(i:Nat):Arg->AV
 |.own _ _ _=>.sv (.one (.ref (i*64+49)))
 |.ptr _=>.dQ (i*64+48) 0
 |a=>a.av
def Bq(n:Nat)(args:List Arg):St:=
 {n:=n,tmps:=λt=>match args[t]? with|some v=>v.avX t|none=>.undef,ah:=dR args}
def Yw(st:St)(W:List (Option Nat))(o:Nat):Bool:=Jt st o&&!(Ql o W)
def adY(Θ:gI)(rv:List ResultVar)(sh:List gJ)(dB:List kN)(K:xZ dB×vw sh->Prop)(e:Exit)(st:St):Prop:=
 match e with
 |.normal|.ret=>match Ii Θ st rv with
  |some svs=>match Ii Θ (st.freeze (Yw st (xE dB svs))) rv with
   |some vs=>match uD (xE dB vs),yZ (st.freeze (Yw st (xE dB svs))) dB vs,FI (st.freeze (Yw st (xE dB svs))) 0 sh with
    |true,some d,some b=>K (d,b)
    |_,_,_=>False
   |none=>False
  |none=>False
 |_=>False
def aaS(sh:List gJ)(dB:List kN)(F:lI sh->Prop×(xZ dB×vw sh->Prop)):Qe:=λargs=>
 match jJ sh args with
 |some x=>some ((F x).1,⟨xZ dB×vw sh,(F x).2,λt=>⟨gQ dB t.1,none⟩,λt=>je sh t.2⟩)
 |none=>none
def aeO(sh:List gJ):List Mode:=sh.map gJ.mode
end Go.Fw
namespace Go.Fw
open Go
variable {P:Program} {w0:World} {M:Nat->Prop} {T:Ext} {γ γ':Nat->Value} {st:St} {a:Act} {w w':World} {Θ:gI} {Γ:iT}
def abb(args:List Arg)(γ:Nat->Value)(o:Nat):Option Value:=match dR args o with|some (.var _)=>some (γ o)|_=>none
theorem ajs{args:List Arg}{o:Nat}{cs:List Cell}(h:dR args o=some (.var cs)):o%64=48:=by
 unfold dR at h;split at h
 .split at h<;>cases h
 · grind [Nat.eq_of_beq_eq_true]
 .cases h
def QJ(args:List Arg)(γ:Nat->Value)(S:Nat->Prop):Ext where
 S:=λb=>S b\/vY (dR args) γ b
 N:=abb args γ
 n48:=by
  intro p v h;unfold abb at h;split at h
  .next cs hc=>exact ajs hc
  .cases h
theorem vX.get{X:V}:∀(as:List Arg)(vs:List Value)(i:Nat),vX X i as vs->as.length=vs.length/\∀(j:Nat)(b:Arg),as[j]? =some b->∃v,vs[j]? =some v/\Ia X (i+j) b v
 |[],[],_,_=>⟨rfl,λj b h=>by simp at h⟩
 |x::as,v::vs,i,⟨h1,h2⟩=>by
  obtain⟨g1,g2⟩:=vX.get as vs (i+1) h2;refine⟨by simp[g1],λj b hb=>?_⟩;cases j with
  |zero=>grind
  |succ j=>
   grind
 |[],_::_,_,H|_::_,[],_,H=>by cases H
theorem Ia.av{X:V}(i:Nat):∀(c:Arg)(v:Value),Ia X i c v->aP X (c.avX i) v
 |.own _ _ _,_,h=>h
 |.ptr _,_,h=>h
 |.sv _,_,h|.kp _,_,h|.fn _ _,_,h=>h
theorem Yx{args:List Arg}{vs:Array Value}{S:Nat->Prop}(n:Nat)(hn:args.length<=n)
 (h:vX ⟨w,w.heap.size,S,γ,dR args⟩ 0 args vs.toList)
 (ho:∀o x,dR args o=some x->bg ⟨w,w.heap.size,S,γ,dR args⟩ o x/\∀b,blk (γ o)=some b->b<w.heap.size)
 (hs:∀o x q y b,dR args o=some x->dR args q=some y->o≠q->blk (γ o)=some b->blk (γ q)≠some b):
 Rel w (vY (dR args) γ) (QJ args γ S) γ (Bq n args) {tmps:=vs++Array.replicate (n-vs.size) undef,defers:=[]} w:=by
 obtain⟨hl0,hget⟩:=vX.get _ _ 0 h;have hl:vs.size=args.length:=by grind
 have le:V.le ⟨w,w.heap.size,S,γ,dR args⟩ ⟨w,w.heap.size,(QJ args γ S).S,γ,dR args⟩:=
  ⟨apz _,λb hb=>⟨⟨hb.1,λhlt=>.inl (hb.2.1 hlt),hb.2.2⟩,rfl⟩,λo cs hx=>⟨⟨cs,hx⟩,rfl⟩,λo e r l fr hx=>⟨⟨l,fr,hx⟩,rfl⟩⟩
 refine⟨λb hb=>.inr hb,rfl,?_,rfl,rfl,rfl,apz _,λ_ _ _=>rfl,λt=>?_,λo x hx=>bg.mono le o x (λ_ _=>rfl) rfl (ho o x hx).1,λo x b hx hb=>⟨(ho o x hx).2 b hb,.inr ⟨o,x,hx,hb⟩⟩,λo x p y b hx hy hop hb=>hs o x p y b hx hy hop hb,λo v cs hN hx=>?_⟩
 · grind [Bq]
 .simp only[Bq];cases ha:args[t]? with
  |none=>trivial
  |some v=>
   obtain⟨u,hu,hr⟩:=hget t v ha;have:(vs++Array.replicate (n-vs.size) undef).getD t undef=u:=by
    have hlt:t<args.length:=by
     grind
    have hlt':t<vs.size:=by omega
    rw[ark,arq hlt']
    grind
   grind [aP.mono,Ia.av]
 .have hN':abb args γ o=some v:=hN
  grind [abb]
def AW(a a':Arg):Prop:=
 (∃e r l,a=.own e r l/\a'=.own e r l)\/(∃cs cs',a=.ptr cs/\a'=.ptr cs'/\∀(X:V) vs,ai X cs vs->ai X cs' vs)\/
 ((∀(X:V) v,aP X a.av v->aP X a'.av v)/\(∀i,a.avX i=a.av)/\(∀i,a'.avX i=a'.av)/\(∀e r l,a≠ .own e r l)/\(∀cs,a≠ .ptr cs)/\(∀e r l,a'≠ .own e r l)/\(∀cs,a'≠ .ptr cs))
theorem fC.ahs{s:fC}{x:Arg}{d:s.den}(h:s.read x=some d):AW x (s.val d):=by
 refine .inr (.inr ⟨λX v hv=>?_,?_⟩)
 .have hx:mY X x v:=by
   cases x with
   |sv _|kp _|fn _ _=>exact hv
   |own _ _ _|ptr _=>cases s<;>simp[fC.read]at h
  grind [mY.av,fC.weak]
 .cases x<;>cases s<;>first
   |(simp[fC.read]at h;done)
   |exact⟨λ_=>rfl,λ_=>rfl,(λ_ _ _ e=>by cases e),(λ_ e=>by cases e),(λ_ _ _ e=>by cases e),(λ_ e=>by cases e)⟩
theorem gJ.ahs{s:gJ}{x:Arg}{d:s.den}(h:s.read x=some d):AW x (s.val d):=by
 unfold gJ.read at h;split at h
 .exact fC.ahs h
 .next e r f s l=>
  split at h
  .next hb=>
   split at h
   .next hs=>cases h;have he:=aps hb;subst he;have hsr:=ak.eq_of_beq s r hs;subst hsr;exact .inl ⟨e,s,l,rfl,rfl⟩
   .cases h
  .cases h
 .next l cs=>exact .inr (.inl ⟨cs,_,rfl,rfl,λX vs hc=>Bl _ _ _ _ h hc⟩)
 .cases h
theorem GK:∀{l:List gJ}{xs:List Arg}{d:lI l},jJ l xs=some d->(rW l d).length=xs.length/\∀(i:Nat)(a:Arg),xs[i]? =some a->∃a',(rW l d)[i]? =some a'/\AW a a'
 |[],[],_,_=>⟨rfl,λi a h=>by simp at h⟩
 |s::r,x::xs,d,h=>by
  rw[jJ]at h;split at h
  .next a b h1 h2=>
   cases h;obtain⟨g1,g2⟩:=GK h2;refine⟨by simp[rW,g1],λi c hc=>?_⟩;cases i with
   |zero=>simp at hc;subst hc;exact⟨_,rfl,gJ.ahs h1⟩
   |succ i=>obtain⟨c',k1,k2⟩:=g2 i c (by simpa using hc);exact⟨c',by simpa[rW]using k1,k2⟩
  .cases h
 |[],_::_,_,h=>by simp[jJ]at h
 |_::_,[],_,h=>by simp[jJ]at h
theorem acN{args:List Arg}{o:Nat}(h:∀b,args[o / 64]? =some b->(∀e r l,b≠ .own e r l)/\∀cs,b≠ .ptr cs):dR args o=none:=by
 unfold dR;split
 · grind
 · grind
 .rfl
theorem OZ{sh:List gJ}{args:List Arg}{x:lI sh}(h:jJ sh args=some x)(n:Nat):Covers (Bq n (rW sh x)) (Bq n args):=by
 obtain⟨hl,hget⟩:=GK h;refine⟨rfl,λt X v hv=>?_,λo=>?_⟩
 .simp only[Bq]at hv ⊢;cases ha:args[t]? with
  |none=>
   grind
  |some b=>
   obtain⟨b',hb',hw⟩:=hget t b ha;rw[ha]at hv;rw[hb'];rcases hw with⟨e,r,l,rfl,rfl⟩|⟨cs,cs',rfl,rfl,_⟩|⟨hw,e1,e2,_⟩
   .exact hv
   .exact hv
   grind
 .show(dR (rW sh x) o=none/\dR args o=none)\/∃y y',dR args o=some y/\dR (rW sh x) o=some y'/\EI y y';cases ha:args[o / 64]? with
  |none=>
   grind [acN]
  |some b=>
   obtain⟨b',hb',hw⟩:=hget _ b ha;rcases hw with⟨e,r,l,rfl,rfl⟩|⟨cs,cs',rfl,rfl,hc⟩|⟨_,_,_,n1,n2,n3,n4⟩
   .unfold dR;rw[ha,hb'];cases hm:Nat.beq (o%64) 49 with
    |true=>exact .inr ⟨_,_,rfl,rfl,.inr ⟨e,r,l,false,false,rfl,rfl,id⟩⟩
    |false=>grind
   .unfold dR;rw[ha,hb'];cases hm:Nat.beq (o%64) 48 with
    |true=>exact .inr ⟨_,_,rfl,rfl,.inl ⟨cs,cs',rfl,rfl,hc⟩⟩
    |false=>grind
   grind [acN]
theorem Vb(a b:List (Nat×ay))(p:Nat):look (a++b) p=match look b p with|some y=>some y|none=>look a p:=by
 induction a with
 |nil=>grind [look]
 |cons x a ih=>
  grind [look]
theorem uH:∀(cs:List dS)(k p:Nat)(x:ay),look (jl k cs).2 p=some x↔∃i e r l fr,p=k+i/\cs[i]? =some (.own e r l fr)/\x=.arr e r l fr
 |[],k,p,x=>by simp[jl,look]
 |c::cs,k,p,x=>by
  rw[jl,Vb];have ih:=uH cs (k+1) p x;constructor
  .intro h;split at h
   .next y hy=>cases h;obtain⟨i,e,r,l,fr,h1,h2,h3⟩:=(uH cs (k+1) p x).1 hy;exact⟨i+1,e,r,l,fr,by omega,by simpa using h2,h3⟩
   .next hn=>
    cases c with
    |plain c=>simp[dS.take,look]at h
    |own e r l fr=>
     simp only[dS.take,look]at h;split at h
     .next hb=>cases h;exact⟨0,e,r,l,fr,by simp_all,rfl,rfl⟩
     .cases h
  .rintro⟨i,e,r,l,fr,h1,h2,rfl⟩;cases i with
   |succ i=>
    grind
   |zero=>
    have hn:look (jl (k+1) cs).2 p=none:=by
     cases hl:look (jl (k+1) cs).2 p with
     |none=>rfl
     |some y=>obtain⟨i,_,_,_,_,g1,_⟩:=(uH cs (k+1) p y).1 hl;omega
    simp_all [dS.take,look]
def GL(rs:List (Bool×List dS)):List dS:=rs.flatMap (·.2)
theorem aga(k:Nat)(x:Bool×List dS):(qW k x).2=(jl k x.2).2:=by
 unfold qW;split
 · grind
 · grind
 grind
theorem wU:∀(rs:List (Bool×List dS))(k p:Nat)(x:ay),look (fV k rs).2 p=some x↔∃i e r l fr,p=k+i/\(GL rs)[i]? =some (.own e r l fr)/\x=.arr e r l fr
 |[],k,p,x=>by simp[fV,look,GL]
 |y::rs,k,p,x=>by
  rw[fV,Vb,aga];have amn:GL (y::rs)=y.2++GL rs:=rfl;constructor
  .intro h;split at h
   .next z hz=>
    cases h;obtain⟨i,e,r,l,fr,h1,h2,h3⟩:=(wU rs (k+y.2.length) p x).1 hz;refine⟨y.2.length+i,e,r,l,fr,by omega,?_,h3⟩
    grind
   .obtain⟨i,e,r,l,fr,h1,h2,h3⟩:=(uH y.2 k p x).1 h;refine⟨i,e,r,l,fr,h1,?_,h3⟩
    grind
  .rintro⟨i,e,r,l,fr,h1,h2,rfl⟩;rw[amn]at h2;rcases apQ i y.2.length with hlt|hge
   .rw[aqz hlt]at h2;have hn:look (fV (k+y.2.length) rs).2 p=none:=by
     cases hl:look (fV (k+y.2.length) rs).2 p with
     |none=>rfl
     |some z=>obtain⟨j,_,_,_,_,g1,_⟩:=(wU rs (k+y.2.length) p z).1 hl;omega
    rw[hn];exact(uH y.2 k p _).2 ⟨i,e,r,l,fr,h1,h2,rfl⟩
   .rw[aqY hge]at h2;have:=(wU rs (k+y.2.length) p (.arr e r l fr)).2 ⟨i-y.2.length,e,r,l,fr,by omega,h2,rfl⟩;rw[this]
end Go.Fw
namespace Go.Fw
open Go
set_option linter.unusedVariables false
variable {P:Program} {w0:World} {M:Nat->Prop} {T:Ext} {γ γ':Nat->Value} {st:St} {a:Act} {w w':World} {Θ:gI} {Γ:iT}
def RF(Y:V)(c:dS)(v:Value)(n:Option Nat):Prop:=
 match c with
 |.plain x=>aK Y x v/\x.refs=[]
 |.own e r l fr=>0<r.len/\((∃o g,n=some o/\Y.ah o=some (.arr e r l g)/\Ih fr g=true/\v=Y.γ o/\v.oneCell'=true)\/(l=[]/\v=.slice none 0 0))
def Bv(Y:V):List dS->List Value->List (Option Nat)->Prop
 |[],[],[]=>True
 |c::cs,v::vs,n::ns=>RF Y c v n/\Bv Y cs vs ns
 |_,_,_=>False
theorem Bv.append{Y:V}:∀(cs:List dS)(vs:List Value)(ns:List (Option Nat))(ds:List dS)(us:List Value)(ms:List (Option Nat)),Bv Y cs vs ns->Bv Y ds us ms->Bv Y (cs++ds) (vs++us) (ns++ms)
 |[],[],[],_,_,_,_,h=>h
 |_::cs,_::vs,_::ns,ds,us,ms,⟨h1,h2⟩,h=>⟨h1,Bv.append cs vs ns ds us ms h2 h⟩
theorem Bv.length{Y:V}:∀(cs:List dS)(vs:List Value)(ns:List (Option Nat)),Bv Y cs vs ns->cs.length=vs.length
 |[],[],[],_=>rfl
 |_::cs,_::vs,_::ns,⟨_,h2⟩=>by simp[Bv.length cs vs ns h2]
theorem Bv.get{Y:V}:∀(cs:List dS)(vs:List Value)(ns:List (Option Nat))(i:Nat)(c:dS),Bv Y cs vs ns->cs[i]? =some c->∃v n,vs[i]? =some v/\ns[i]? =some n/\RF Y c v n
 |[],[],[],i,c,_,h=>by simp at h
 |x::cs,v::vs,n::ns,0,c,⟨h1,_⟩,h=>by grind
 |x::cs,v::vs,n::ns,i+1,c,⟨_,h2⟩,h=>by obtain⟨u,m,g1,g2,g3⟩:=Bv.get cs vs ns i c h2 (by simpa using h);exact⟨u,m,by simpa using g1,by simpa using g2,g3⟩
theorem dX.acO(c:dX)(x:Cell)(d:c.den)(h:c.read x=some d)(hx:x.refs=[]):(c.cell d).refs=[]:=by cases c<;>cases x<;>first|rfl|(simp[dX.read]at h;done)|(cases hx)
theorem RC.agB{Y:V}(hst:Y.ah=st.ah)(hpos:∀o e r l g,st.ah o=some (.arr e r l g)->0<r.len):∀(c:RC)(x:Cell)(d:c.den)(v:Value),c.read st x=some d->aK Y x v->RF Y (c.ahr d) v (c.name x):=by
 intro c x d v hr hv;cases c with
 |c s=>
  rw[RC.read]at hr;split at hr
  .next hx=>exact⟨dX.weak s x d v hr hv,dX.acO s x d hr hx⟩
  .cases hr
 |own e r fr=>
  cases x with
  |ref o=>
   simp only[RC.read]at hr;split at hr
   .next f s l g ho=>
    split at hr
    .next hb=>
     split at hr
     .next hs=>cases hr;rw[apt]at hb;have he:=aps hb.1;subst he;have hsr:=ak.eq_of_beq s r hs;subst hsr;exact⟨hpos _ _ _ _ _ ho,.inl ⟨o,g,rfl,by rw[hst];exact ho,hb.2,hv.2.1,hv.2.2⟩⟩
     .cases hr
    .cases hr
   .cases hr
  |nil=>
   simp only[RC.read]at hr;split at hr
   .next hb=>cases hr;exact⟨ap4 Nat.zero_lt_one (by simp_all),.inr ⟨rfl,hv⟩⟩
   .cases hr
  |_=>simp[RC.read]at hr
theorem Yy{Y:V}(hst:Y.ah=st.ah)(hpos:∀o e r l g,st.ah o=some (.arr e r l g)->0<r.len):∀(l:List RC)(xs:List Cell)(d:Yv l)(vs:List Value),Ll st l xs=some d->ai Y xs vs->Bv Y (aa8 l d) vs (aa9 l xs)
 |[],[],_,[],_,_=>trivial
 |c::r,x::xs,d,v::vs,h,⟨h1,h2⟩=>by
  rw[Ll]at h;split at h
  .next a b g1 g2=>cases h;exact⟨RC.agB hst hpos c x a v g1 h1,Yy hst hpos r xs b vs g2 h2⟩
  .cases h
 |[],_::_,_,_,h,_=>by simp[Ll]at h
 |_::_,[],_,_,h,_=>by simp[Ll]at h
theorem kN.aeP{Y:V}(hst:Y.ah=st.ah)(hpos:∀o e r l g,st.ah o=some (.arr e r l g)->0<r.len):∀(s:kN)(x:SV)(d:s.den)(v:Value),s.read st x=some d->dm Y x v->Bv Y (s.out d).2 v.cells.toList (s.names x)
 |.one c,.one x,d,v,h,hv=>by
  rw[DC v (aK.one x v hv)];exact⟨RC.agB hst hpos c x d v h hv,trivial⟩
 |.agg l,.agg xs,d,v,h,⟨vs,hv,hc⟩=>by
  rw[hv];exact Yy hst hpos l xs d _ h hc
 |.one _,.agg _,_,_,h,_|.agg _,.one _,_,_,h,_=>by simp[kN.read]at h
theorem Yz{Y:V}(hst:Y.ah=st.ah)(hpos:∀o e r l g,st.ah o=some (.arr e r l g)->0<r.len):∀(l:List kN)(xs:List SV)(d:xZ l)(vs:List Value),yZ st l xs=some d->dw Y xs vs->
 Bv Y (GL (gQ l d)) (vs.flatMap λv=>v.cells.toList) (xE l xs)
 |[],[],_,[],_,_=>trivial
 |s::r,x::xs,d,v::vs,h,⟨h1,h2⟩=>by
  rw[yZ]at h;split at h
  .next a b g1 g2=>cases h;exact Bv.append _ _ _ _ _ _ (kN.aeP hst hpos s x a v g1 h1) (Yz hst hpos r xs b vs g2 h2)
  .cases h
 |[],_::_,_,_,h,_=>by simp[yZ]at h
 |_::_,[],_,_,h,_=>by simp[yZ]at h
def Go1(Z:V)(k:Nat)(c:dS)(v:Value):Prop:=aK Z (c.take k).1 v
def Et(Z:V):Nat->List dS->List Value->Prop
 |_,[],[]=>True
 |k,c::cs,v::vs=>Go1 Z k c v/\Et Z (k+1) cs vs
 |_,_,_=>False
theorem Et.of{Z:V}:∀(cs:List dS)(vs:List Value)(k:Nat),cs.length=vs.length->(∀i c v,cs[i]? =some c->vs[i]? =some v->Go1 Z (k+i) c v)->Et Z k cs vs
 |[],[],_,_,_=>trivial
 |c::cs,v::vs,k,hl,h=>⟨h 0 c v rfl rfl,Et.of cs vs (k+1) (by simpa using hl) λi c' v' h1 h2=>by
   have:=h (i+1) c' v' (by simpa using h1) (by simpa using h2)
   grind⟩
theorem Et.split{Z:V}:∀(cs:List dS)(vs:List Value)(ds:List dS)(us:List Value)(k:Nat),cs.length=vs.length->Et Z k (cs++ds) (vs++us)->Et Z k cs vs/\Et Z (k+cs.length) ds us
 |[],[],_,_,_,_,h=>⟨trivial,h⟩
 |c::cs,v::vs,ds,us,k,hl,⟨h1,h2⟩=>by obtain⟨g1,g2⟩:=Et.split cs vs ds us (k+1) (by simpa using hl) h2;exact⟨⟨h1,g1⟩,by grind⟩
theorem Et.cells{Z:V}:∀(cs:List dS)(vs:List Value)(k:Nat),Et Z k cs vs->ai Z (jl k cs).1 vs
 |[],[],_,_=>trivial
 |c::cs,v::vs,k,⟨h1,h2⟩=>⟨h1,Et.cells cs vs (k+1) h2⟩
theorem kN.go{Y Z:V}:∀(s:kN)(x:SV)(d:s.den)(v:Value)(k:Nat),s.read st x=some d->dm Y x v->Et Z k (s.out d).2 v.cells.toList->dm Z (qW k (s.out d)).1 v
 |.one c,.one x,d,v,k,h,hv,hg=>by
  rw[DC v (aK.one x v hv)]at hg;exact hg.1
 |.agg l,.agg xs,d,v,k,h,⟨vs,hv,hc⟩,hg=>by
  rw[hv]at hg ⊢;exact⟨vs,rfl,Et.cells _ _ _ hg⟩
 |.one _,.agg _,_,_,_,h,_,_|.agg _,.one _,_,_,_,h,_,_=>by simp[kN.read]at h
theorem acP{Y Z:V}(hst:Y.ah=st.ah)(hpos:∀o e r l g,st.ah o=some (.arr e r l g)->0<r.len):∀(l:List kN)(xs:List SV)(d:xZ l)(vs:List Value)(k:Nat),yZ st l xs=some d->dw Y xs vs->
 Et Z k (GL (gQ l d)) (vs.flatMap λv=>v.cells.toList)->dw Z (fV k (gQ l d)).1 vs
 |[],[],_,[],_,_,_,_=>trivial
 |s::r,x::xs,d,v::vs,k,h,⟨h1,h2⟩,hg=>by
  rw[yZ]at h;split at h
  .next a b g1 g2=>cases h;have hl:=Bv.length _ _ _ (kN.aeP hst hpos s x a v g1 h1);obtain⟨k1,k2⟩:=Et.split _ _ _ _ k hl hg;exact⟨kN.go s x a v k g1 h1 k1,acP hst hpos r xs b vs _ g2 h2 k2⟩
  .cases h
 |[],_::_,_,_,_,h,_,_=>by simp[yZ]at h
 |_::_,[],_,_,_,h,_,_=>by simp[yZ]at h
theorem Vd:∀(l:List dX)(xs:List Cell)(d:jG l),iJ l xs=some d->xs.flatMap Cell.refs=[]->(fJ l d).flatMap Cell.refs=[]
 |[],[],_,_,_=>rfl
 |c::r,x::xs,d,h,hx=>by
  rw[iJ]at h;split at h
  .next a b g1 g2=>cases h;rw[ap8,apU]at hx;show(c.cell a::fJ r b).flatMap Cell.refs=[];rw[ap8,dX.acO c x a g1 hx.1,Vd r xs b g2 hx.2,aqe]
  .cases h
 |[],_::_,_,h,_=>by simp[iJ]at h
 |_::_,[],_,h,_=>by simp[iJ]at h
theorem GN:∀(sh:List gJ)(i:Nat)(b:vw sh),FI st i sh=some b->∀(j:Nat)(e:Eff),(je sh b)[j]? =some e->
 e=.lose\/∃l cs cs0,sh[j]? =some (.ptr l)/\e=.var cs/\st.ah ((i+j)*64+48)=some (.var cs0)/\cs0.flatMap Cell.refs=[]/\cs.flatMap Cell.refs=[]/\∀(X:V) vs,ai X cs0 vs->ai X cs vs
 |[],_,_,_,j,e,he=>by grind [je]
 |.ptr l::r,i,b,h,j,e,he=>by
  rw[FI]at h;split at h
  .next cs b' hx hb=>
   split at h
   .next a hr ha=>
    cases h;cases j with
    |zero=>
     simp[je]at he;subst he;exact .inr ⟨l,_,cs,rfl,rfl,by simpa using hx,hr,Vd _ _ _ ha hr,λX vs hc=>Bl _ _ _ _ ha hc⟩
    |succ j=>
     rcases GN r (i+1) b' hb j e (by simpa[je]using he)with h|⟨l,cs',cs0,h1,h2,h3,h4⟩
     .exact .inl h
     .exact .inr ⟨l,cs',cs0,by simpa using h1,h2,by rw[show i+(j+1)=i+1+j by omega];exact h3,h4⟩
   .cases h
  .cases h
 |.p _::r,i,b,h,j,e,he|.own _ _::r,i,b,h,j,e,he=>by
  rw[FI]at h;cases j with
  |zero=>simp[je]at he;exact .inl he.symm
  |succ j=>
   rcases GN r (i+1) b h j e (by simpa[je]using he)with h|⟨l,cs',cs0,h1,h2,h3,h4⟩
   .exact .inl h
   .exact .inr ⟨l,cs',cs0,by simpa using h1,h2,by rw[show i+(j+1)=i+1+j by omega];exact h3,h4⟩
theorem YA:∀{sh:List gJ}{xs:List Arg}{d:lI sh},jJ sh xs=some d->∀(j:Nat)(l:List dX),sh[j]? =some (.ptr l)->∃cs,xs[j]? =some (.ptr cs)
 |[],[],_,_,j,l,h=>by simp at h
 |s::r,x::xs,d,h,j,l,hj=>by
  rw[jJ]at h;split at h
  .next a b h1 h2=>
   cases j with
   |zero=>
    simp at hj;subst hj;cases x with
    |ptr cs=>grind
    |_=>simp[gJ.read]at h1
   |succ j=>obtain⟨cs,hc⟩:=YA h2 j l (by simpa using hj);exact⟨cs,by simpa using hc⟩
  .cases h
 |[],_::_,_,h,_,_,_=>by grind
 |_::_,[],_,h,_,_,_=>by simp[jJ]at h
theorem aiz{sh:List gJ}{b:vw sh}(hb:FI st 0 sh=some b){q:Nat}{y:ay}(h:lT (je sh b) q=some y):
 q%64=48/\∃l cs cs0,sh[q / 64]? =some (.ptr l)/\y=.var cs/\st.ah q=some (.var cs0)/\cs0.flatMap Cell.refs=[]/\cs.flatMap Cell.refs=[]/\∀(X:V) vs,ai X cs0 vs->ai X cs vs:=by
 unfold lT at h;split at h
 · grind [GN]
 · grind [Nat.eq_of_beq_eq_true,GN]
 .cases h
def gJ.oU:(s:gJ)->s.den->Prop
 |.p s,x=>s.oU x
 |.own _ r,(l:List r.den)=>∀x∈l,r.oU x
 |.ptr l,x=>TN l x
def Jv:(l:List gJ)->lI l->Prop
 |[],_=>True
 |s::r,x=>s.oU x.1/\Jv r x.2
theorem fC.TP{X:V}(s:fC)(x:Arg)(d:s.den)(v:Value)(h:s.read x=some d)(hr:mY X x v):s.oU d:=
 (yY (X:=X) [s] (d,()) [v] ⟨fC.weak s x d v h hr,trivial⟩).1
theorem QK{X:V}{args:List Arg}(ho:∀o x,dR args o=some x->bg X o x):∀(sh:List gJ)(xs:List Arg)(d:lI sh)(vs:List Value)(i:Nat),(∀j a,xs[j]? =some a->args[i+j]? =some a)->
 jJ sh xs=some d->vX X i xs vs->Jv sh d
 |[],[],_,_,_,_,_,_=>trivial
 |s::r,x::xs,d,v::vs,i,hj,h,⟨hv,hvs⟩=>by
  rw[jJ]at h;split at h
  .next a b h1 h2=>
   cases h;refine⟨?_,QK ho r xs b vs (i+1) (λj c hc=>by have:=hj (j+1) c (by simpa using hc);grind) h2 hvs⟩;have hx:args[i]? =some x:=hj 0 x rfl;cases s with
   |p s=>
    have h1':s.read x=some a:=by grind [gJ.read]
    refine fC.TP (X:=X) s x a v h1' ?_;cases x with
    |own _ _ _|ptr _=>cases s<;>simp[fC.read]at h1'
    |_=>exact hv
   |own e r'=>
    cases x with
    |own f s' l=>
     have h1':(match Nat.beq e f with|true=>if h:s'.beq r'=true then some (pW h l)else none|false=>none)=some a:=h1;split at h1'
     .split at h1'
      .next hb hs=>
       cases h1';have hsr:=ak.eq_of_beq s' r' hs;subst hsr;have vZ:dR args (i*64+49)=some (.arr f s' l false):=by
        unfold dR;rw[show(i*64+49) / 64=i by omega,hx]
        simp_all
       obtain⟨us,_,_,_,hrow⟩:=ho _ _ vZ;intro y hy;have hy':y∈l:=hy;obtain⟨j,hj1,hj2⟩:=arb.1 hy';exact aZ.oU s' _ _ (hrow j y (by grind))
      .cases h1'
     .cases h1'
    |_=>simp[gJ.read]at h1
   |ptr l=>
    cases x with
    |ptr cs=>
     have h1':iJ l cs=some a:=h1;have vZ:dR args (i*64+48)=some (.var cs):=by
      unfold dR;rw[show(i*64+48) / 64=i by omega,hx]
      simp_all
     obtain⟨_,arr,_,_,_,hc⟩:=ho _ _ vZ;exact FH l a _ (Bl _ _ _ _ h1' hc)
    |_=>simp[gJ.read]at h1
  .cases h
 |[],_::_,_,_,_,_,h,_=>by simp[jJ]at h
 |_::_,[],_,_,_,_,h,_=>by simp[jJ]at h
theorem FZ:∀(l:List gJ)(d:lI l),(rW l d).length=l.length
 |[],_=>rfl
 |_::r,d=>by simp[rW,FZ r d.2]
theorem Out.ajt(rs:List (Bool×List dS))(k:Nat):((⟨rs,none⟩:Out).take k).2=(fV k rs).2:=by
 grind [Out.take]
theorem Out.aju(rs:List (Bool×List dS))(k:Nat):((⟨rs,none⟩:Out).take k).1=(match (fV k rs).1 with|[v]=>AV.sv v|vs=>.kE vs):=by
 grind [Out.take]
theorem anw{args:List Arg}{S:Nat->Prop}{sh:List gJ}{dB:List kN}{x:lI sh}(hx:jJ sh args=some x){d:xZ dB}{b:vw sh}{k:Nat}{vs:List SV}{us:List Value}
 (hR:Rel w (vY (dR args) γ) (QJ args γ S) γ' st a w') (hrs:dw (aj w (QJ args γ S) γ' st w') vs us) (hnd:uD (xE dB vs)=true) (hrd:yZ st dB vs=some d) (hbk:FI st 0 sh=some b)
 (hap:∀o x,look ((⟨gQ dB d,none⟩:Out).take k).2 o=some x->lT (je sh b) o=none):
 ∃γ2,aP ⟨w',w.heap.size,oQ S args (je sh b) γ,γ2,look ((⟨gQ dB d,none⟩:Out).take k).2⟩ ((⟨gQ dB d,none⟩:Out).take k).1 (if h:us.toArray.size=1 then us.toArray[0]else .tuple us.toArray)/\
  (∀o x,look ((⟨gQ dB d,none⟩:Out).take k).2 o=some x->bg ⟨w',w.heap.size,oQ S args (je sh b) γ,γ2,look ((⟨gQ dB d,none⟩:Out).take k).2⟩ o x/\
    ∀b',blk (γ2 o)=some b'->b'<w'.heap.size/\(w.heap.size<=b'\/vY (dR args) γ b')/\∀q y,lT (je sh b) q=some y->blk (γ q)≠some b')/\
  (∀o x q y b',look ((⟨gQ dB d,none⟩:Out).take k).2 o=some x->look ((⟨gQ dB d,none⟩:Out).take k).2 q=some y->o≠q->blk (γ2 o)=some b'->blk (γ2 q)≠some b')/\
  (∀o x,lT (je sh b) o=some x->γ2 o=γ o/\bg ⟨w',w.heap.size,oQ S args (je sh b) γ,γ2,look ((⟨gQ dB d,none⟩:Out).take k).2⟩ o x):=by
 rw[Out.ajt]at hap ⊢;rw[Out.aju]
 skip
 let Y:V:=aj w (QJ args γ S) γ' st w'
 let fv:List Value:=us.flatMap λv=>v.cells.toList
 let aH:=je sh b
 let γ2:Nat->Value:=λp=>match lT aH p with|some _=>γ p|none=>fv.getD (p-k) undef
 let Z:V:=⟨w',w.heap.size,oQ S args aH γ,γ2,look (fV k (gQ dB d)).2⟩
 have hpos:∀o e r l g,st.ah o=some (.arr e r l g)->0<r.len:=λo e r l g ho=>by obtain⟨_,_,h,_⟩:=hR.ah o _ ho;exact h
 have hF:Bv Y (GL (gQ dB d)) fv (xE dB vs):=Yz (st:=st) rfl hpos dB vs d us hrd hrs;have hbq:∀q y,lT aH q=some y->γ' q=γ q/\∃cs cs0,y=.var cs/\st.ah q=some (.var cs0)/\cs0.flatMap Cell.refs=[]/\cs.flatMap Cell.refs=[]/\∀(X:V) vs,ai X cs0 vs->ai X cs vs:=by
  intro q y hq;obtain⟨hm,l,cs,cs0,h1,h2,h3,h4,h5,h6⟩:=aiz hbk hq;refine⟨?_,cs,cs0,h2,h3,h4,h5,h6⟩;obtain⟨ci,hci⟩:=YA hx _ l h1;have ho:dR args q=some (.var ci):=by
   simp_all [dR]
  have hN:(QJ args γ S).N q=some (γ q):=by
   show abb args γ q=_
   grind [abb]
  exact hR.pin q _ _ hN h3
 have hG:∀p X,look (fV k (gQ dB d)).2 p=some X->∃i e r l fr,p=k+i/\(GL (gQ dB d))[i]? =some (.own e r l fr)/\X=.arr e r l fr/\0<r.len/\
  ((∃o g,(xE dB vs)[i]? =some (some o)/\st.ah o=some (.arr e r l g)/\Ih fr g=true/\γ2 p=γ' o/\(γ2 p).oneCell'=true)\/(l=[]/\γ2 p=.slice none 0 0)):=by
  intro p X hp;obtain⟨i,e,r,l,fr,h1,h2,h3⟩:=(wU _ k p X).1 hp;obtain⟨v,n,g1,g2,hr,hv⟩:=Bv.get _ _ _ i _ hF h2
  grind
 have TL:∀b',Y.foot b'->Z.foot b':=by
  intro b' hb';refine⟨hb'.1,λhlt=>⟨hb'.2.1 hlt,λq y hq=>?_⟩,λp X hp=>?_⟩
  .obtain⟨hγ,cs,cs0,_,h3,_⟩:=hbq q y hq;rw[← hγ];exact hb'.2.2 q _ h3
  .obtain⟨i,e,r,l,fr,_,_,_,_,hc⟩:=hG p X hp;show blk (γ2 p)≠some b';rcases hc with⟨o,g,_,ho,_,hγ,_⟩|⟨_,hγ⟩
   .rw[hγ];exact hb'.2.2 o _ ho
   .rw[hγ];intro h;cases h
 have aiA:∀fr b',Y.bI fr b'->Z.bI fr b':=λfr b' h=>⟨TL b' h.1,h.2⟩;have hgo:Et Z k (GL (gQ dB d)) fv:=by
  refine Et.of _ _ _ (Bv.length _ _ _ hF) λi c v hc hv=>?_;obtain⟨v',n,g1,g2,g3⟩:=Bv.get _ _ _ i c hF hc;rw[hv]at g1;cases g1;cases c with
  |plain x=>
   exact(CS (Y:=Y) (Z:=Z) rfl aiA [x] [v] (by simpa using g3.2) ⟨g3.1,trivial⟩).1
  |own e r l fr=>
   have hp:look (fV k (gQ dB d)).2 (k+i)=some (.arr e r l fr):=(wU _ k _ _).2 ⟨i,e,r,l,fr,rfl,hc,rfl⟩;have hγ:γ2 (k+i)=v:=by
    grind
   refine⟨⟨e,r,l,fr,hp⟩,hγ.symm,?_⟩;rcases g3.2 with⟨_,_,_,_,_,_,h⟩|⟨_,h⟩
   .exact h
   .rw[h];rfl
 have hsv:dw Z (fV k (gQ dB d)).1 us:=acP (st:=st) (Y:=Y) rfl hpos dB vs d us k hrd hrs hgo;refine⟨γ2,?_,λp X hp=>?_,λp X q X' b' hp hq hne hb1 hb2=>?_,λq y hq=>?_⟩
 .have hl:=dw.length _ _ hsv
  match hm:(fV k (gQ dB d)).1,us,hsv,hl with
  |[v],[u],hk,_=>exact hk.1
  |[],[],hk,_=>exact⟨_,by simp,hk⟩
  |v::v2::r,u::u2::us,hk,hl=>exact⟨_,by simp,hk⟩
  |[],_::_,hk,h4|_::_,[],hk,h4|[_],_::_::_,hk,h4|_::_::_,[_],hk,h4=>simp at h4
 .obtain⟨i,e,r,l,fr,_,_,rfl,hr,hc⟩:=hG p X hp;rcases hc with⟨o,g,_,ho,hb,hγ,_⟩|⟨rfl,hγ⟩
  .have hO:bg Y o (.arr e r l g):=hR.ah o _ ho;have hold:∀b',blk (γ' o)=some b'->fr=true->w.heap.size<=b':=by
    intro b' hb' hfr;subst hfr;have hg:g=true:=hb;subst hg;obtain⟨_,_,_,hn,_⟩:=hO
    grind
   refine⟨bg.aa5 (Y:=Y) (Z:=Z) hO hγ rfl (λb' hb'=>⟨TL b' hb'.1,λhfr=>hb'.2 ?_⟩) hold,λb' hb'=>?_⟩
   .subst hfr;exact hb
   .rw[hγ]at hb';obtain⟨h1,h2⟩:=hR.lt o _ b' ho hb';refine⟨h1,h2,λq y hq=>?_⟩;obtain⟨hγq,cs,cs0,_,h3,_⟩:=hbq q y hq;rw[← hγq];refine hR.sep o _ q _ b' ho h3 ?_ hb'
    grind
  .refine⟨⟨[],⟨by simp,.inl ⟨hγ,rfl⟩⟩,hr,(λb' hb'=>by grind [blk]),λi x hi=>by simp at hi⟩,λb' hb'=>by rw[hγ]at hb';cases hb'⟩
 .obtain⟨i,e,r,l,fr,hi,_,_,_,hc⟩:=hG p X hp;obtain⟨j,e',r',l',fr',hj,_,_,_,hc'⟩:=hG q X' hq;rcases hc with⟨o,g,hn,ho,_,hγ,_⟩|⟨_,hγ⟩
  .rcases hc' with⟨o',g',hn',ho',_,hγ',_⟩|⟨_,hγ'⟩
   .rw[hγ]at hb1;rw[hγ']at hb2;have:o≠o':=by
     grind [J8]
    exact hR.sep o _ o' _ b' ho ho' this hb1 hb2
   .rw[hγ']at hb2;cases hb2
  .rw[hγ]at hb1;cases hb1
 .obtain⟨hγ,cs,cs0,rfl,h3,h4,h5,h6⟩:=hbq q y hq;have yU:γ2 q=γ q:=by
   grind
  refine⟨yU,?_⟩;obtain⟨b',arr,t,k1,k2,k3⟩:=hR.ah q _ h3;refine⟨b',arr,t,?_,k2,CS (Y:=Y) (Z:=Z) rfl aiA _ _ h5 (h6 _ _ k3)⟩
  grind
theorem akX{G:iP}(hE:EnvB P G Θ Γ)(hm:P.follows .mixedOrders=true){f:FuncId}{fn:Func}{c:Code}(hf:P.funcs[f]? =some fn)(hb:fn.body=some c)(H:Hints)
 {sh:List gJ} {dB:List kN} {F:lI sh->Prop×(xZ dB×vw sh->Prop)} (hn:Nat.ble sh.length fn.ntmps=true) (hne:∀x,(F x).1->∃t,(F x).2 t)
 (hwalk:∀x,Jv sh x->(F x).1->DU Θ Γ H c (adY Θ fn.results.toList sh dB (F x).2) (Bq fn.ntmps (rW sh x))):yV P G f (aaS sh dB F):=by
 intro args p ρ hcon hp;unfold aaS at hcon;split at hcon
 case h_2=>cases hcon
 next x hx=>
 cases hcon;refine⟨hne x hp,λk S γ vs w hG hrep vZ hsep hap=>?_⟩;have hlen:=(GK hx).1;rw[FZ]at hlen;have hn':args.length<=fn.ntmps:=by simp_all
 have hin:Jv sh x:=QK (λo X ho=>(vZ o X ho).1) sh args x vs.toList 0 (λj a h=>by grind) hx hrep;have hR0:=Yx (S:=S) fn.ntmps hn' hrep (λo X ho=>⟨(vZ o X ho).1,λb hb=>((vZ o X ho).2 b hb).1⟩) hsep;have hR1:=hR0.covers (OZ hx fn.ntmps);refine calls_of_wp hf hb (QI ⟨hE,hG,λb hb=>?_⟩ hm H c _ _ _ _ _ _ hR1 (hwalk x hin hp) ?_)
 .obtain⟨o,X,ho,hb⟩:=hb
  grind
 intro e s γ' a' w' he hR;have hret:∃(us:List Value)(t:xZ dB×vw sh),(fn.results.mapM (FD a'.tmps)).run P w'=.ok us.toArray w'/\(F x).2 t/\∃γ2,
  aP ⟨w',w.heap.size,oQ S args (je sh t.2) γ,γ2,look ((⟨gQ dB t.1,none⟩:Out).take k).2⟩ ((⟨gQ dB t.1,none⟩:Out).take k).1 (if h:us.toArray.size=1 then us.toArray[0]else .tuple us.toArray)/\
  (∀o x',look ((⟨gQ dB t.1,none⟩:Out).take k).2 o=some x'->bg ⟨w',w.heap.size,oQ S args (je sh t.2) γ,γ2,look ((⟨gQ dB t.1,none⟩:Out).take k).2⟩ o x'/\
    ∀b,blk (γ2 o)=some b->b<w'.heap.size/\(w.heap.size<=b\/vY (dR args) γ b)/\∀q y,lT (je sh t.2) q=some y->blk (γ q)≠some b)/\
  (∀o x' q y b,look ((⟨gQ dB t.1,none⟩:Out).take k).2 o=some x'->look ((⟨gQ dB t.1,none⟩:Out).take k).2 q=some y->o≠q->blk (γ2 o)=some b->blk (γ2 q)≠some b)/\
  (∀o x',lT (je sh t.2) o=some x'->γ2 o=γ o/\bg ⟨w',w.heap.size,oQ S args (je sh t.2) γ,γ2,look ((⟨gQ dB t.1,none⟩:Out).take k).2⟩ o x'):=by
  have he':(e=.normal\/e=.ret)/\adY Θ fn.results.toList sh dB (F x).2 .ret s:=by
   cases e with
   |normal=>exact⟨.inl rfl,he⟩
   |ret=>grind
   |_=>exact he.elim
  have he2:=he'.2;simp only[adY]at he2;split at he2
  .next svs apa=>
   split at he2
   .next vs' hvs'=>
    split at he2
    .next d b hnd hd hb'=>
     have hRf:=hR.freeze (Yw s (xE dB svs));obtain⟨us,hus,hrs⟩:=Ij hE.types hRf _ _ hvs';refine⟨us,(d,b),?_,he2,anw hx hRf hrs hnd hd hb' (hap (d,b) he2)⟩
     simp_all [arv]
    grind
   grind
  grind
 obtain⟨us,t,hus,ht,γ2,h1,h2,h3,h4⟩:=hret;have hfin:bodyPost P fn (λe w'=>∃t,(F x).2 t/\Jm S args γ w k ⟨gQ dB t.1,none⟩ (je sh t.2) e w') .ret a' w':=by
  refine⟨hR.defers,if h:us.toArray.size=1 then us.toArray[0]else .tuple us.toArray,?_,t,ht,_,γ2,rfl,hR.os,hR.tape,hR.output,hR.grow,hR.kept,h1,h2,h3,h4⟩;rw[Nv,apS,hus]
  simp_all
 cases e with
 |normal=>exact hfin
 |ret=>exact hfin
 |_=>exact he.elim
def adZ(rv:List ResultVar)(l:List dX)(K:jG l->Prop)(e:Exit)(st:St):Prop:=
 match e with
 |.normal|.ret=>match rv with
  |[.tmp t]=>match st.tmps t with
   |.dQ o off=>match Nat.beq off 0,(st.freeze (Jt st)).ah o with
    |true,some (.var cs)=>match cs.flatMap Cell.refs,iJ l cs with
     |[],some d=>K d
     |_,_=>False
    |_,_=>False
   |_=>False
  |_=>False
 |_=>False
def loses(sh:List gJ):List Eff:=sh.map λ_=>.lose
def ajv(sh:List gJ)(l:List dX)(F:lI sh->Prop×(jG l->Prop)):Qe:=λargs=>
 match jJ sh args with
 |some x=>some ((F x).1,⟨jG l,(F x).2,λt=>⟨[],some (fJ l t)⟩,λ_=>loses sh⟩)
 |none=>none
theorem Nw(sh:List gJ)(q:Nat):lT (loses sh) q=none:=by
 grind [lT,loses]
theorem Lm:∀(l:List dX)(cs:List Cell)(d:jG l),iJ l cs=some d->cs.flatMap Cell.refs=[]->(fJ l d).flatMap Cell.refs=[]
 |[],[],_,_,_=>rfl
 |c::l,x::xs,d,h,hn=>by
  rw[iJ]at h;rw[ap8,apU]at hn;split at h
  .next p q hp hq=>
   cases h;show((c.cell p)::fJ l q).flatMap Cell.refs=[];rw[ap8,apU];refine⟨?_,Lm l xs q hq hn.2⟩;cases c with
   |ref o=>
    cases x<;>simp[dX.read,Cell.refs]at hp hn
   |_=>rfl
  .cases h
 |[],_::_,_,h,_=>by simp[iJ]at h
 |_::_,[],_,h,_=>by simp[iJ]at h
theorem akY{G:iP}(hE:EnvB P G Θ Γ)(hm:P.follows .mixedOrders=true){f:FuncId}{fn:Func}{c:Code}(hf:P.funcs[f]? =some fn)(hb:fn.body=some c)(H:Hints)
 {sh:List gJ} {l:List dX} {F:lI sh->Prop×(jG l->Prop)} (hn:Nat.ble sh.length fn.ntmps=true) (hne:∀x,(F x).1->∃t,(F x).2 t)
 (hwalk:∀x,Jv sh x->(F x).1->DU Θ Γ H c (adZ fn.results.toList l (F x).2) (Bq fn.ntmps (rW sh x))):yV P G f (ajv sh l F):=by
 intro args p ρ hcon hp;unfold ajv at hcon;split at hcon
 case h_2=>cases hcon
 next x hx=>
 cases hcon;refine⟨hne x hp,λk S γ vs w hG hrep vZ hsep hap=>?_⟩;have hlen:=(GK hx).1;rw[FZ]at hlen;have hn':args.length<=fn.ntmps:=by simp_all
 have hin:Jv sh x:=QK (λo X ho=>(vZ o X ho).1) sh args x vs.toList 0 (λj a h=>by grind) hx hrep;have hR0:=Yx (S:=S) fn.ntmps hn' hrep (λo X ho=>⟨(vZ o X ho).1,λb hb=>((vZ o X ho).2 b hb).1⟩) hsep;have hR1:=hR0.covers (OZ hx fn.ntmps);refine calls_of_wp hf hb (QI ⟨hE,hG,λb hb=>?_⟩ hm H c _ _ _ _ _ _ hR1 (hwalk x hin hp) ?_)
 .obtain⟨o,X,ho,hb⟩:=hb
  grind
 intro e s γ' a' w' he hR;have he':adZ fn.results.toList l (F x).2 .ret s:=by
  cases e with
  |normal=>exact he
  |ret=>exact he
  |_=>exact he.elim
 have hfin:bodyPost P fn (λe w'=>∃t,(F x).2 t/\Jm S args γ w k ⟨[],some (fJ l t)⟩ (loses sh) e w') .ret a' w':=by
  simp only[adZ]at he';split at he'
  case h_2=>exact he'.elim
  next t hrv=>
  split at he'
  case h_2=>exact he'.elim
  next o off htm=>
  split at he'
  case h_2=>exact he'.elim
  next cs hoff hcs=>
  split at he'
  case h_2=>exact he'.elim
  next d hnr hd=>
  have hoff:=aps hoff;subst hoff;have hRf:=hR.freeze (Jt s);have hv:=hR.tmps t;rw[htm]at hv;obtain⟨b,cs0,_,hγ,hval⟩:=hv;obtain⟨b',arr,ty,g1,g2,g3⟩:=hRf.ah o _ hcs;have g1:γ' o=.pointer (some ⟨b',0,none⟩):=g1;have hγ:γ' o=.pointer (some ⟨b,0,none⟩):=hγ;rw[hγ]at g1;cases g1;have hblk:blk (γ' o)=some b:=by rw[hγ];rfl
  have hlt:=hRf.lt o _ b hcs hblk
  let γ2:Nat->Value:=λ_=>γ' o
  let Z:V:=⟨w',w.heap.size,oQ S args (loses sh) γ,γ2,look (Out.take k ⟨[],some (fJ l d)⟩).2⟩
  have hlook:∀q y,look (Out.take k ⟨[],some (fJ l d)⟩).2 q=some y->q=k-1/\y=.var (fJ l d):=by
   intro q y hq;have hmem:=sN _ q y hq
   grind [Out.take]
  have TL:∀fr b',(aj w (QJ args γ S) γ' (s.freeze (Jt s)) w').bI fr b'->Z.bI fr b':=by intro fr b' hb';refine⟨⟨hb'.1.1,λhlt'=>⟨hb'.1.2.1 hlt',λq y hq=>by grind [Nw]⟩,λq y hq=>?_⟩,hb'.2⟩;exact hb'.1.2.2 o _ hcs
  have hcells:ai Z (fJ l d) arr.toList:=
   CS (Y:=aj w (QJ args γ S) γ' (s.freeze (Jt s)) w') (Z:=Z) rfl TL _ _ (Lm l cs d hd hnr) (Bl l cs d _ hd g3)
  have hself:look (Out.take k ⟨[],some (fJ l d)⟩).2 (k-1)=some (.var (fJ l d)):=by simp[Out.take,look]
  refine⟨hR.defers,a'.tmps.getD t undef,?_,d,he',_,γ2,rfl,hR.os,hR.tape,hR.output,hR.grow,hR.kept,?_,λq y hq=>?_,λq y q' y' b' hq hq' hne'=>?_,λq y hq=>by grind [Nw]⟩
  .have:fn.results=#[.tmp t]:=by grind
   have hmap:(Array.mapM (FD a'.tmps) #[ResultVar.tmp t]).run P w'=.ok #[a'.tmps.getD t undef] w':=by
    simp_all [FD]
   rw[Nv,this,apS,hmap];rfl
  .exact⟨b,fJ l d,hself,hγ,hval⟩
  .obtain⟨rfl,rfl⟩:=hlook q y hq;refine⟨⟨b,arr,ty,hγ,g2,hcells⟩,λb' hb'=>?_⟩
   grind [Nw]
  grind
 cases e with
 |normal=>exact hfin
 |ret=>exact hfin
 |_=>exact he.elim
end Go.Fw
namespace Go.Fw
open Go
def CT.isZero:CT->Value->Bool
 |.int k,.int l n=>decide (k=l)&&decide (n=0)
 |.bool,.bool b=>!b
 |.str,.string s=>s.data.toList.isEmpty
 |.sl _ _,.slice none 0 0=>true
 |_,_=>false
def ak.Lp:ak->List Value->Bool
 |.nil,[]=>true
 |.cons c r,v::vs=>c.isZero v&&r.Lp vs
 |_,_=>false
theorem CT.aiB:∀(c:CT)(v:Value),c.isZero v=true->v=c.aaY:=by
 intro c v h;unfold CT.isZero at h;split at h
 .simp at h;rw[h.1,h.2];rfl
 .simp at h;subst h;rfl
 .next s=>obtain⟨⟨l⟩⟩:=s;simp at h;subst h;rfl
 .rfl
 .cases h
theorem ak.YB:∀(r:ak)(vs:List Value),r.Lp vs=true->vs=r.lU
 |.nil,[],_=>rfl
 |.cons c r,v::vs,h=>by
  rw[Lp,apt]at h;rw[ak.lU,CT.aiB c v h.1,ak.YB r vs h.2]
 |.nil,_::_,h|.cons _ _,[],h=>by simp[Lp]at h
def aeQ:TypeDesc->TypeDesc->Bool
 |.int k,.int l=>decide (k=l)
 |.bool,.bool=>true
 |.string,.string=>true
 |.slice e,.slice f=>Nat.beq e f
 |_,_=>false
theorem aiC:∀(c d:TypeDesc),aeQ c d=true->c=d:=by
 intro c d h;unfold aeQ at h;split at h
 · grind
 .rfl
 .rfl
 · simp_all
 .cases h
def Ik(P:Program):List (Nat×TypeId)->List Field->Bool
 |[],[]=>true
 |(o,t)::r,f::fs=>Nat.beq o f.offset&&Nat.beq t f.type&&(P.info? f.type).isSome&&Ik P r fs
 |_,_=>false
theorem Ve{P:Program}:∀(l:List (Nat×TypeId))(fs:List Field),Ik P l fs=true->l=fs.map (λf=>(f.offset,f.type))/\∀f∈fs,(P.info? f.type).isSome=true
 |[],[],_=>⟨rfl,by simp⟩
 |(o,t)::r,f::fs,h=>by
  rw[Ik,apt,apt,apt]at h;obtain⟨⟨⟨h1,h2⟩,h3⟩,h4⟩:=h;obtain⟨e,hall⟩:=Ve r fs h4;refine⟨by rw[apP,← e,aps h1,aps h2],λg hg=>?_⟩;rcases apN.1 hg with rfl|hg
  .exact h3
  .exact hall g hg
 |[],_::_,h|_::_,[],h=>by simp[Ik]at h
def aiD(P:Program)(t:TypeId)(ti:TI):Bool:=
 match ti.kind,P.underlying t with
 |.scalar,some d=>match ti.cells.desc with|some c=>aeQ c d|none=>false
 |.str,some .string=>ti.cells.beq (.cons .str .nil)
 |.slice e,some (.slice f)=>Nat.beq e f&&(match ti.cells with|.cons (.sl g _) .nil=>Nat.beq g e|_=>false)
 |.struct fs,some (.struct xQ)=>Ik P fs xQ.toList
 |_,_=>false
def agC(ti:TI)(z:Value):Bool:=match ti.kind with
 |.struct _=>true
 |_=>z.oneCell'
def abd(P:Program)(t:TypeId)(ti:TI):Bool:=
 match P.info? t with
 |some i=>match i.zero with
  |some z=>Nat.beq i.size ti.cells.len&&Nat.beq i.bytes ti.bytes&&ti.cells.Lp z.cells.toList&&agC ti z&&aiD P t ti&&Nat.ble ti.bytes 4096&&(!ti.cmp||ahc P t ti.cells)
  |none=>false
 |none=>false
theorem jv.ajw{P:Program}{t:TypeId}{ti:TI}(h:abd P t ti=true):jv P t ti:=by
 unfold abd at h;split at h
 .next i hi=>
  split at h
  .next z hz=>
   simp only[apt]at h;obtain⟨⟨⟨⟨⟨⟨h1,h2⟩,h3⟩,h4⟩,h5⟩,h6⟩,h7⟩:=h;refine⟨⟨i,z,hi,aps h1,aps h2,hz,ak.YB _ _ h3,λhagg=>?_⟩,?_,by simp_all,λe w s u X xs ys vs us b hf hx hy he=>akR (by grind) w s u X xs ys vs us b hf hx hy he⟩
   · grind [agC,TI.agg,DC]
   grind [aiD,aiC,ak.eq_of_beq,Nat.eq_of_beq_eq_true,Ve]
  .cases h
 .cases h
def Lr(P:Program):List (Nat×TI)->Bool
 |[]=>true
 |(t,ti)::r=>abd P t ti&&Lr P r
theorem Ny{P:Program}:∀{l:List (Nat×TI)},Lr P l=true->∀t ti,Yt l t=some ti->jv P t ti
 |[],_,t,ti,h=>by cases h
 |(i,x)::r,hc,t,ti,h=>by
  rw[Lr,apt]at hc;rw[Yt]at h;cases hb:Nat.beq t i with
  |true=>rw[hb]at h;cases h;rw[aps hb];exact .ajw hc.1
  |false=>rw[hb]at h;exact Ny hc.2 t ti h
def TQ(fn:Func):Bool:=fn.body.isSome&&!(fn.name== "runtime.NumGoroutine")
theorem sQ{P:Program}{f:FuncId}{fn:Func}(hf:P.funcs[f]? =some fn)(hc:TQ fn=true):ny P f:=by
 intro args w;unfold TQ at hc;have h2:fn.body.isNone=false:=by simp_all
 grind [callFunc,Sem.run_bind,run_program,Result.andThen_ok,Sem.run_pure]
def aiE(P:Program)(G:iP)(f:FuncId):Dy->Prop
 |.pure c=>lV P G f c/\ny P f
 |.eff _ c=>yV P G f c/\ny P f
theorem aiF{P:Program}{G:iP}{Θ:gI}(hT:∀t ti,Θ t=some ti->jv P t ti):∀{l:List (Nat×Dy)},(∀x∈l,aiE P G x.1 x.2)->EnvB P G Θ (EX l)
 |[],_=>⟨hT,(λf con h=>by cases h),(λf ms con h=>by cases h)⟩
 |(i,c)::r,h=>by
  have ih:=aiF (G:=G) hT λx hx=>h x (apx _ hx);refine⟨hT,λf con hf=>?_,λf ms con hf=>?_⟩
  .rw[EX]at hf;cases hb:Nat.beq f i with
   |true=>rw[hb]at hf;cases hf;rw[aps hb];exact h (i,.pure con) apB
   |false=>rw[hb]at hf;exact ih.cons f con hf
  .rw[EX]at hf;cases hb:Nat.beq f i with
   |true=>rw[hb]at hf;cases hf;rw[aps hb];exact h (i,.eff ms con) apB
   |false=>rw[hb]at hf;exact ih.adX f ms con hf
end Go.Fw
namespace Go.Fw
open Go
structure PA where
 n:Nat
 sh:List fC
 dB:List kD
 F:jB sh->Prop×o5 dB
structure XA where
 n:Nat
 sh:List gJ
 dB:List kN
 F:lI sh->Prop×(xZ dB×vw sh->Prop)
structure QA where
 n:Nat
 sh:List gJ
 dB:List dX
 F:lI sh->Prop×(jG dB->Prop)
def PA.e(q:PA):Nat×Dy:=(q.n,.pure (xO q.sh q.dB q.F))
def XA.e(q:XA):Nat×Dy:=(q.n,.eff (aeO q.sh) (aaS q.sh q.dB q.F))
def QA.e(q:QA):Nat×Dy:=(q.n,.eff (aeO q.sh) (ajv q.sh q.dB q.F))
def YC(P:Program)(G:iP)(x:Nat×Dy):Prop:=aiE P G x.1 x.2
def QL(P:Program)(G:iP):List (Nat×Dy)->Prop
 |[]=>True
 |x::l=>YC P G x/\QL P G l
theorem ajx{P:Program}{G:iP}{l':List (Nat×TI)}(hT:Lr P l'=true){l:List (Nat×Dy)}(h:QL P G l):EnvB P G (Yt l') (EX l):=
 aiF (Ny hT) (by
  induction l with
  |nil=>grind
  |cons y l ih=>exact List.forall_mem_cons.2 ⟨h.1,ih h.2⟩)
def abe:(l:List dX)->(jG l->Prop)->Prop
 |[],p=>p ()
 |c::r,p=>∀x:c.den,abe r λy=>p (x,y)
theorem Ls:∀{l:List dX}{p:jG l->Prop},abe l p->∀x,p x
 |[],_,h,()=>h
 |_::_,_,h,(x,y)=>Ls (h x) y
def aht:(l:List (List dX))->(xC l->Prop)->Prop
 |[],p=>p ()
 |c::r,p=>abe c λx=>aht r λy=>p (x,y)
theorem aeR:∀{l:List (List dX)}{p:xC l->Prop},aht l p->∀x,p x
 |[],_,h,()=>h
 |_::_,_,h,(x,y)=>aeR (Ls h x) y
def ajy:(s:fC)->(s.den->Prop)->Prop
 |.v (.one c),p=>∀x:c.den,p x
 |.v (.agg l),p=>abe l p
 |.kp l,p=>abe l p
 |.fn _ l,p=>aht l p
theorem agD:∀{s:fC}{p:s.den->Prop},ajy s p->∀x,p x
 |.v (.one _),_,h,x=>h x
 |.v (.agg _),_,h,x=>Ls h x
 |.kp _,_,h,x=>Ls h x
 |.fn _ _,_,h,x=>aeR h x
def ahu:(l:List fC)->(jB l->Prop)->Prop
 |[],p=>p ()
 |s::r,p=>ajy s λx=>ahu r λy=>p (x,y)
theorem aeS:∀{l:List fC}{p:jB l->Prop},ahu l p->∀x,p x
 |[],_,h,()=>h
 |_::_,_,h,(x,y)=>aeS (agD h x) y
def alz:(s:gJ)->(s.den->Prop)->Prop
 |.p s,p=>ajy s p
 |.own _ r,p=>∀x:List r.den,p x
 |.ptr l,p=>abe l p
theorem akZ:∀{s:gJ}{p:s.den->Prop},alz s p->∀x,p x
 |.p _,_,h,x=>agD h x
 |.own _ _,_,h,x=>h x
 |.ptr _,_,h,x=>Ls h x
def ad1:(l:List gJ)->(lI l->Prop)->Prop
 |[],p=>p ()
 |s::r,p=>alz s λx=>ad1 r λy=>p (x,y)
theorem Wl:∀{l:List gJ}{p:lI l->Prop},ad1 l p->∀x,p x
 |[],_,h,()=>h
 |_::_,_,h,(x,y)=>Wl (akZ h x) y
abbrev LP{α:Type}(x:α)(f:(α->Prop)->(α->Nat)->α->Prop):Prop:=∃(I:α->Prop),∃(μ:α->Nat),I x/\∀(y:α),I y->f I μ y
abbrev NX{σ α:Type}(s:σ)(I:α->Prop)(μ:α->Nat)(x y:α):Prop:=s=s/\I x/\μ x<μ y
def H0:Hints:=hints [] [] [] [] []
def AP(P:Program)(n:Nat):Func:=match P.funcs[n]? with|some f=>f|none=>default
def FK(P:Program)(n k:Nat):Bool:=P.funcs[n]?.isSome&&TQ (AP P n)&&Nat.ble k (AP P n).ntmps
theorem QM{P:Program}{n k:Nat}(h:FK P n k=true):P.funcs[n]? =some (AP P n)/\(AP P n).body=some (codeOf (AP P n))/\ny P n/\Nat.ble k (AP P n).ntmps=true:=by
 grind [FK,AP,sQ,TQ,codeOf]
def PA.goal(q:PA)(g:(o5 q.dB->Prop)->Prop)(x:jB q.sh):Prop:=GI q.sh x->(q.F x).1->g λr=>r=(q.F x).2
def XA.goal(q:XA)(g:(xZ q.dB×vw q.sh->Prop)->Prop)(x:lI q.sh):Prop:=Jv q.sh x->(q.F x).1->g (q.F x).2
def QA.goal(q:QA)(g:(jG q.dB->Prop)->Prop)(x:lI q.sh):Prop:=Jv q.sh x->(q.F x).1->g (q.F x).2
def PA.say(P:Program)(Θ:gI)(Γ:iT)(H:Hints)(q:PA):Prop:=bif FK P q.n q.sh.length then ahu q.sh λx=>q.goal (λK=>DU Θ Γ H (codeOf (AP P q.n)) (Yu Θ (AP P q.n).results.toList q.dB K) (entry (AP P q.n).ntmps (qj q.sh x))) x else False
def XA.say(P:Program)(Θ:gI)(Γ:iT)(H:Hints)(q:XA):Prop:=bif FK P q.n q.sh.length then ad1 q.sh λx=>q.goal (λK=>DU Θ Γ H (codeOf (AP P q.n)) (adY Θ (AP P q.n).results.toList q.sh q.dB K) (Bq (AP P q.n).ntmps (rW q.sh x))) x else False
def QA.say(P:Program)(Θ:gI)(Γ:iT)(H:Hints)(q:QA):Prop:=bif FK P q.n q.sh.length then ad1 q.sh λx=>q.goal (λK=>DU Θ Γ H (codeOf (AP P q.n)) (adZ (AP P q.n).results.toList q.dB K) (Bq (AP P q.n).ntmps (rW q.sh x))) x else False
variable {P:Program} {Θ:gI} {Γ:iT} {G:iP}
theorem PA.ok{q:PA}(hm:P.follows .mixedOrders=true)(hE:EnvB P G Θ Γ)(H:Hints){p:Prop}
 (hp:q.say P Θ Γ H=p) (h:p):YC P G q.e:=by
 subst hp;unfold PA.say at h;cases hc:FK P q.n q.sh.length with
 |false=>grind
 |true=>rw[hc]at h;obtain⟨h1,h2,h3,h4⟩:=QM hc;exact⟨aa7 hE hm h1 h2 H h4 λx hi hx=>aeS h x hi hx,h3⟩
theorem XA.ok{q:XA}(hm:P.follows .mixedOrders=true)(hE:EnvB P G Θ Γ)(H:Hints)(hne:∀x,(q.F x).1->∃t,(q.F x).2 t){p:Prop}
 (hp:q.say P Θ Γ H=p) (h:p):YC P G q.e:=by
 subst hp;unfold XA.say at h;cases hc:FK P q.n q.sh.length with
 |false=>grind
 |true=>rw[hc]at h;obtain⟨h1,h2,h3,h4⟩:=QM hc;exact⟨akX hE hm h1 h2 H h4 hne λx hi hx=>Wl h x hi hx,h3⟩
theorem QA.ok{q:QA}(hm:P.follows .mixedOrders=true)(hE:EnvB P G Θ Γ)(H:Hints)(hne:∀x,(q.F x).1->∃t,(q.F x).2 t){p:Prop}
 (hp:q.say P Θ Γ H=p) (h:p):YC P G q.e:=by
 subst hp;unfold QA.say at h;cases hc:FK P q.n q.sh.length with
 |false=>grind
 |true=>rw[hc]at h;obtain⟨h1,h2,h3,h4⟩:=QM hc;exact⟨akY hE hm h1 h2 H h4 hne λx hi hx=>Wl h x hi hx,h3⟩
abbrev dX.i:dX:=.int .i64
abbrev dX.b:dX:=.bool
abbrev dX.s:dX:=.str
abbrev dX.l(e:TypeId)(r:ak):dX:=.sl e r false
abbrev dX.f(e:TypeId)(r:ak):dX:=.sl e r true
abbrev kD.i:kD:=.one .i
abbrev kD.b:kD:=.one .b
abbrev kD.s:kD:=.one .s
abbrev kD.l(e:TypeId)(r:ak):kD:=.one (.l e r)
abbrev kD.f(e:TypeId)(r:ak):kD:=.one (.f e r)
abbrev fC.i:fC:=.v .i
abbrev fC.b:fC:=.v .b
abbrev fC.s:fC:=.v .s
abbrev fC.l(e:TypeId)(r:ak):fC:=.v (.l e r)
abbrev gJ.i:gJ:=.p .i
abbrev gJ.b:gJ:=.p .b
abbrev gJ.s:gJ:=.p .s
abbrev gJ.l(e:TypeId)(r:ak):gJ:=.p (.l e r)
abbrev RC.i:RC:=.c .i
abbrev RC.b:RC:=.c .b
abbrev RC.s:RC:=.c .s
abbrev RC.l(e:TypeId)(r:ak):RC:=.c (.l e r)
abbrev RC.f(e:TypeId)(r:ak):RC:=.c (.f e r)
abbrev kN.i:kN:=.one .i
abbrev kN.b:kN:=.one .b
abbrev kN.s:kN:=.one .s
abbrev kN.l(e:TypeId)(r:ak):kN:=.one (.l e r)
abbrev kN.f(e:TypeId)(r:ak):kN:=.one (.f e r)
abbrev kN.o(e:TypeId)(r:ak):kN:=.one (.own e r true)
end Go.Fw
namespace Go.Fw
open Go
variable {P:Program} {G:iP} {f:FuncId}
abbrev qU:List UInt8:=[]
abbrev EK:List (Int×Unit):=[]
theorem lV.weaken{con aeT:KX}(h:lV P G f con)(hc:∀args p out,aeT args=some (p,out)->p->∃q,con args=some (q,out)/\q):lV P G f aeT:=by intro args p out k S vs w hcon hp hG hrep;obtain⟨q,h1,h2⟩:=hc args p out hcon hp;exact h args q out k S vs w h1 h2 hG hrep
theorem yV.weaken{con aeT:Qe}(h:yV P G f con)(hc:∀args p ρ,aeT args=some (p,ρ)->p->∃q,con args=some (q,ρ)/\q):yV P G f aeT:=by intro args p ρ hcon hp;obtain⟨q,h1,h2⟩:=hc args p ρ hcon hp;exact h args q ρ h1 h2
theorem aiG{sh:List fC}{dB:List kD}{F:jB sh->Prop×o5 dB}(Fr Fs:Nat->jB sh->Prop×o5 dB)(h0:∀x,¬(Fr 0 x).1)(hs:∀n x,Fr (n+1) x=Fs n x)
 (hf:∀x,(F x).1->∃n,(Fr n x).1) (he:∀n x,(Fr n x).2=(F x).2) (step:∀n,lV P G f (xO sh dB (Fr n))->lV P G f (xO sh dB (Fs n))):lV P G f (xO sh dB F):=by
 have all:∀n,lV P G f (xO sh dB (Fr n)):=by
  intro n
  induction n with
  |zero=>
   intro args p out k S vs w hcon hp;unfold xO Fa at hcon
   grind
  |succ n ih=>
   have e:Fr (n+1)=Fs n:=funext (hs n)
   grind
 intro args p out k S vs w hcon hp hG hrep;have ad2:=hcon;unfold xO Fa at ad2;split at ad2
 .next x hx=>
  have e:=Option.some.inj ad2;have e1:(F x).1=p:=congrArg Prod.fst e;obtain⟨n,hn⟩:=hf x (e1.symm▸hp);refine all n args (Fr n x).1 out k S vs w ?_ hn hG hrep
  simp_all [xO,Fa]
 .cases ad2
end Go.Fw
namespace Go.Fw
open Go
variable {P:Program} {H:Type} {enc:TypeId×Value->H} {w:World}
def ak.app:ak->ak->ak
 |.nil,s=>s
 |.cons c r,s=>.cons c (r.app s)
def ahv:(r s:ak)->r.den->s.den->(r.app s).den
 |.nil,_,_,y=>y
 |.cons _ r,s,x,y=>(x.1,ahv r s x.2 y)
theorem aZ.app{h:Array Obj}{S:Nat->Prop}:∀(r s:ak)(x:r.den)(y:s.den)(vs us:List Value),aZ h S r vs x->aZ h S s us y->aZ h S (r.app s) (vs++us) (ahv r s x y)
 |.nil,s,x,y,vs,us,h1,h2=>by subst h1;exact h2
 |.cons c r,s,(x,x'),y,vs,us,h1,h2=>by obtain⟨v,vs',rfl,g1,g2⟩:=h1;exact⟨v,vs'++us,rfl,g1,aZ.app r s x' y vs' us g2 h2⟩
theorem add_add(a:Addr)(h:a.spot=none)(m j:Nat):(a.add m).add j=⟨a.block,a.off+m+j,none⟩:=by
 obtain⟨b,o,sp⟩:=a
 grind [Addr.add]
def Jw(f:TypeId->Option ak):List Field->Nat->Option ak
 |[],_=>some .nil
 |x::r,off=>match f x.type with
  |some s=>match Jw f r (off+s.len),Nat.beq x.offset off with
   |some u,true=>some (s.app u)
   |_,_=>none
  |none=>none
def rowOf(P:Program):Nat->TypeId->Option ak
 |0,_=>none
 |n+1,t=>match P.underlying t with
  |some (.int k)=>some (.cons (.int k) .nil)
  |some .bool=>some (.cons .bool .nil)
  |some .string=>some (.cons .str .nil)
  |some (.slice e)=>match rowOf P n e with
   |some s=>match Nat.beq s.len (P.cellsOf e)&&Nat.ble 1 s.len with
    |true=>some (.cons (.sl e s) .nil)
    |false=>none
   |none=>none
  |some (.struct fs)=>match Jw (rowOf P n) fs.toList 0 with
   |some r=>match Nat.beq r.len (P.cellsOf t)with
    |true=>match fs.toList.all λf=>match rowOf P n f.type with|some s=>Nat.beq s.len (P.cellsOf f.type)|none=>false with
     |true=>some r
     |false=>none
    |false=>none
   |none=>none
  |_=>none
theorem agE{α:Type}{Q:Nat->α->Prop}:∀(n:Nat),(∀i,i<n->∃x,Q i x)->∃l:List α,l.length=n/\∀i x,l[i]? =some x->Q i x
 |0,_=>⟨[],rfl,λi x h=>by simp at h⟩
 |n+1,h=>by
  obtain⟨l,hl,hq⟩:=agE n λi hi=>h i (by omega);obtain⟨x,hx⟩:=h n (by omega);refine⟨l++[x],by simp[hl],λi y hy=>?_⟩
  grind
theorem agF:∀(r s:ak),(r.app s).len=r.len+s.len
 |.nil,s=>by simp[ak.app,ak.len]
 |.cons c r,s=>by simp only[ak.app,ak.len,agF r s];omega
theorem YD{f:TypeId->Option ak}{S:Nat->Prop}{h:Array Obj}(cs:List Value)
 (part:∀(t:TypeId)(r:ak)(off:Nat),f t=some r->(∃g:Field,g.type=t/\g.offset=off)->True):∀(fs:List Field)(off:Nat)(r:ak),Jw f fs off=some r->
 (∀g∈fs,∀s,f g.type=some s->∃x,aZ h S s ((cs.drop g.offset).take s.len) x)->
 ∃x,aZ h S r ((cs.drop off).take r.len) x
 |[],off,r,hr,_=>by
  cases hr
  simp_all [aZ,ak.len]
 |g::fs,off,r,hr,hall=>by
  rw[Jw]at hr;split at hr
  .next s hs=>
   split at hr
   .next u hu hb=>
    cases hr;obtain⟨x,hx⟩:=hall g apB s hs;rw[aps hb]at hx;obtain⟨y,hy⟩:=YD cs part fs (off+s.len) u hu λg' hg'=>hall g' (apx _ hg');refine⟨ahv s u x y,?_⟩
    grind [aZ.app,agF,List.drop_drop]
   .cases hr
  .cases hr
theorem Wn:∀(n:Nat)(t:TypeId)(r:ak),rowOf P n t=some r->∀(m:Nat)(base:Nat)(spare:Nat->Bool)(held:Bool)(cs:List Value)(x:DataW H×List MemPlace),
 DataW.trod enc P w base spare held m t cs=some x->∃y,aZ w.heap (λb=>b<w.heap.size) r cs y
 |0,t,r,hr=>by cases hr
 |n+1,t,r,hr=>by
  intro m base spare held cs x hx;rw[rowOf]at hr;split at hr
  .next k hu=>
   cases hr;obtain⟨i,rfl,_,hwf⟩:=DataW.trod_int hu hx
   simp_all [Lit.wf,aZ,fM]
  .next hu=>
   cases hr;obtain⟨b,rfl,_⟩:=DataW.trod_bool hu hx
   simp_all [aZ,fM]
  .next hu=>cases hr;obtain⟨s,rfl,_,hs⟩:=DataW.trod_string hu hx;refine⟨(s.data.toList,()),by simp_all [aZ,fM]⟩
  .next e hu=>
   split at hr
   .next s hs=>
    split at hr
    .next hb=>
     cases hr;rw[apt]at hb;have hlen:=aps hb.1;have hpos:1<=s.len:=by simp_all
     rcases DataW.trod_slice hu hx with⟨rfl,_⟩|⟨a,len,cap,elems,rest,k,_,rfl,_,hbase,hle,hmax,hel,hrow,_,_⟩
     .exact⟨([],()),by rw[aZ];exact⟨_,[],rfl,by rw[fM];exact⟨by simp,.inl ⟨rfl,none,0,rfl⟩⟩,by rw[aZ]⟩⟩
     .by_cases h0:len=0
      .subst h0;exact⟨([],()),by rw[aZ];exact⟨_,[],rfl,by rw[fM];exact⟨by simp,.inl ⟨rfl,some a,cap,rfl⟩⟩,by rw[aZ]⟩⟩
      .have each:∀i,i<len->∃(ys:List Value)(z:s.den),w.cells? base (a.add (i*P.cellsOf e)) (P.cellsOf e)=some ys/\aZ w.heap (λb=>b<w.heap.size) s ys z:=by
        intro i hi;have h1:=hrow i hi;rw[apw (by omega)]at h1;obtain⟨ys,hys,hy2⟩:=Option.bind_eq_some_iff.1 h1;obtain⟨z,hz⟩:=Wn n e s hs k base spare held ys _ hy2
        grind
       obtain⟨ys0,z0,hc0,hz0⟩:=each 0 (by omega);obtain⟨_,hl0,hcell0⟩:=World.cells?_some hc0;have Wp:=hcell0 0 (by omega);simp only[Nat.zero_mul,Addr.add,if_true]at Wp;have anx:∃v,ys0[0]? =some v:=⟨ys0[0]'(by omega),by grind⟩;obtain⟨v0,hv0⟩:=anx;rw[hv0]at Wp;unfold World.cell? at Wp;split at Wp
       .next c ty fz hblk=>
        split at Wp
        .cases Wp
        .next hsp=>
         have hspot:a.spot=none:=by simp_all
         have ha:a=⟨a.block,a.off,none⟩:=by cases a;grind
         have hb':a.block<w.heap.size:=by
          grind
         have rows:∀i,i<len->∃z:s.den,aZ w.heap (λb=>b<w.heap.size) s ((c.toList.drop (a.off+i*s.len)).take s.len) z:=by
          intro i hi;obtain⟨ys,z,hcs,hz⟩:=each i hi;obtain⟨_,hl,hcell⟩:=World.cells?_some hcs;refine⟨z,?_⟩;have:(c.toList.drop (a.off+i*s.len)).take s.len=ys:=by
           refine aqo λj=>?_
           grind [add_add,World.cell?]
          grind
         obtain⟨l,hll,hlq⟩:=agE len rows;refine⟨(l,()),by rw[aZ];exact⟨_,[],rfl,by rw[fM];exact⟨by omega,.inr ⟨a.block,a.off,cap,c,ty,fz,by grind,by omega,hb',hblk,hlq⟩⟩,by rw[aZ]⟩⟩
       .cases Wp
    .cases hr
   .cases hr
  .next fs hu=>
   split at hr
   .next r' hf=>
    split at hr
    .next hb=>
     split at hr
     .next hall=>
      cases hr;obtain⟨xs,k,_,_,hcl,hxl,hparts⟩:=DataW.trod_struct hu hx;have hlen:=aps hb;have:=YD (h:=w.heap) (S:=λb=>b<w.heap.size) cs (λ_ _ _ _ _=>trivial) fs.toList 0 _ hf ?_
      · grind
      .intro g hg s hs;have hg2:=apL.1 hall g hg;rw[hs]at hg2;have hsl:=aps hg2;obtain⟨i,hi,hgi⟩:=arb.1 hg;have hp:=hparts i g (by grind);rw[apw (by grind)]at hp;rw[hsl];exact Wn n g.type s hs k base spare held _ _ hp
     .cases hr
    .cases hr
   .cases hr
  .cases hr
def CT.csh:CT->dX
 |.int k=>.int k
 |.bool=>.bool
 |.str=>.str
 |.sl e r=>.sl e r false
def toC:(c:CT)->c.den->c.csh.den
 |.int _,x=>x
 |.bool,x=>x
 |.str,x=>x
 |.sl _ _,x=>x
def ak.shs:ak->List dX
 |.nil=>[]
 |.cons c r=>c.csh::r.shs
def toCs:(r:ak)->r.den->jG r.shs
 |.nil,_=>()
 |.cons c r,x=>(toC c x.1,toCs r x.2)
theorem abf(X:V):∀(r:ak)(vs:List Value)(x:r.den),aZ X.w.heap (X.bI false) r vs x->ai X (fJ r.shs (toCs r x)) vs
 |.nil,vs,x,h=>by subst h;trivial
 |.cons c r,vs,(x,y),h=>by
  obtain⟨v,vs',rfl,h1,h2⟩:=h;refine⟨?_,abf X r vs' y h2⟩;cases c with
  |int k=>exact h1
  |bool=>exact h1
  |str=>exact h1
  |sl e r=>exact h1
def ahw(P:Program)(t:TypeId):Option kD:=
 match rowOf P 64 t with
 |some r=>match P.underlying t with
  |some (.struct _)=>some (.agg r.shs)
  |some (.array _ _)=>none
  |_=>match r with
   |.cons c .nil=>some (.one c.csh)
   |_=>none
 |none=>none
def Il(P:Program):List TypeId->Option (List fC)
 |[]=>some []
 |t::ts=>match ahw P t,Il P ts with
  |some s,some l=>some (.v s::l)
  |_,_=>none
def start(w:World):V:=⟨w,w.heap.size,λb=>b<w.heap.size,λ_=>undef,λ_=>none⟩
theorem ak0{t:TypeId}{s:kD}(hs:ahw P t=some s){base base':Nat}{sp:Nat->Bool}{hd:Bool}{v:Value}{d:DataW H}{p:List MemPlace}
 (ht:DataW.Trod enc P w base sp hd t v d p) (hv:Value.okWide P w .any base' t v):∃x:s.den,dm (start w) (s.val x) v:=by
 unfold ahw at hs;split at hs
 .next r hr=>
  obtain⟨m,hm⟩:=ht;obtain⟨y,hy⟩:=Wn 64 t r hr m base sp hd _ _ hm;have hy':aZ (start w).w.heap ((start w).bI false) r v.cells.toList y:=
   aZ.mono (λb hb=>⟨⟨⟨hb,λ_=>hb,λo x hx=>by cases hx⟩,λe=>by cases e⟩,rfl⟩) r _ y hy
  unfold Value.okWide at hv;split at hs
  .next fs hu=>cases hs;rw[hu]at hv;obtain⟨cs,rfl,_,_⟩:=hv;exact⟨toCs r y,cs,rfl,abf (start w) r _ y hy'⟩
  .cases hs
  .next hns hna=>
   split at hs
   .next c=>
    cases hs;have hcell:v.cells=#[v]:=by
     cases hv2:v<;>first
      |rfl
      |(exfalso
        rw[hv2]at hv;split at hv
        · grind
        · grind
        .unfold Go.Cell.okWide at hv;split at hv<;>first|(done)|(rename_i h2;cases h2;done)|skip;unfold Go.Cell.ok at hv;split at hv<;>first|(rename_i h1 h2;cases h2;done)|exact hv)
    have:=abf (start w) _ _ y hy';rw[hcell]at this;exact⟨toC c y.1,this.1⟩
   .cases hs
 .cases hs
theorem aeU:∀(ts:List TypeId)(sh:List fC),Il P ts=some sh->∀{base base':Nat}{sp:Nat->Bool}{hd:Bool}(vs:List Value)(ds:List (DataW H))(p:List MemPlace),
 DataW.TrodAll enc P w base sp hd ts vs ds p->(∀(j:Nat) t v,ts[j]? =some t->vs[j]? =some v->Value.okWide P w .any base' t v)->∃x:jB sh,kT (start w) (qj sh x) vs
 |[],sh,hs,_,_,_,_,vs,ds,p,h,_=>by
  cases hs;cases vs with
  |nil=>exact⟨(),trivial⟩
  |cons v vs=>cases ds<;>simp[DataW.TrodAll]at h
 |t::ts,sh,hs,base,base',sp,hd,vs,ds,p,h,hok=>by
  rw[Il]at hs;split at hs
  .next s l h1 h2=>
   cases hs;cases vs with
   |nil=>cases ds<;>simp[DataW.TrodAll]at h
   |cons v vs=>
    cases ds with
    |nil=>simp[DataW.TrodAll]at h
    |cons d ds=>obtain⟨a,b,g1,g2,_⟩:=h;obtain⟨x,hx⟩:=ak0 h1 g1 (hok 0 t v rfl rfl);obtain⟨y,hy⟩:=aeU ts l h2 vs ds b g2 λj t' v' ht' hv'=>hok (j+1) t' v' (by simpa using ht') (by simpa using hv');exact⟨(x,y),hx,hy⟩
  .cases hs
mutual
theorem CT.Io:∀(c:CT),c.beq c=true
 |.int k=>by simp[CT.beq]
 |.bool=>rfl
 |.str=>rfl
 |.sl e r=>by simp[CT.beq,ak.Io r]
theorem ak.Io:∀(r:ak),r.beq r=true
 |.nil=>rfl
 |.cons c r=>by simp[ak.beq,CT.Io c,ak.Io r]
end
theorem acQ:∀(c:dX)(x:c.den),c.read (c.cell x)=some x
 |.int k,x=>by simp[dX.cell,dX.read]
 |.bool,x=>rfl
 |.str,x=>rfl
 |.sl e r fr,l=>by
  simp only[dX.cell,dX.read,aqs];have h1:Ih fr fr=true:=by cases fr<;>rfl
  have h2:r.beq r=true:=ak.Io r;rw[h1];rw[dif_pos h2];rfl
 |.nil,x=>rfl
 |.ref o,x=>by simp[dX.cell,dX.read]
 |.junk,x=>rfl
theorem YE:∀(l:List dX)(x:jG l),iJ l (fJ l x)=some x
 |[],_=>rfl
 |c::r,x=>by rw[fJ,iJ,acQ c x.1,YE r x.2]
theorem aeV:∀(ts:List TypeId)(l:List fC),Il P ts=some l->∀(x:jB l),DV l (qj l x)=some x
 |[],l,h,x=>by cases h;rfl
 |t::ts,l,h,x=>by
  rw[Il]at h;split at h
  .next s r h1 h2=>
   cases h;have ih:=aeV ts r h2 x.2;cases s with
   |one c=>
    have e:(fC.v (.one c)).read ((fC.v (.one c)).val x.1)=some x.1:=acQ c x.1;rw[qj,DV,ih,e]
   |agg l=>have e:(fC.v (.agg l)).read ((fC.v (.agg l)).val x.1)=some x.1:=YE l x.1;rw[qj,DV,ih,e]
  .cases h
def abg:Out:=⟨[(false,[.plain (.bool true)])],none⟩
theorem aiH{G:iP}{f:FuncId}{fn:Func}{sh:List fC}{F:jB sh->Prop×Out}(hcon:lV P G f (Fa sh F))(hsh:Il P fn.params.toList=some sh)
 (hF:∀x,GI sh x->(F x).1/\(F x).2=abg) (hG:G.ok w) {base base':Nat} {sp:Nat->Bool} {hd:Bool} {args:Array Value} {ds:List (DataW H)} {p:List MemPlace}
 (hA:DataW.TrodAll enc P w base sp hd fn.params.toList args.toList ds p) (hok:∀(j:Nat) t v,fn.params[j]? =some t->args[j]? =some v->Value.okWide P w .any base' t v):
 Calls P f args w λe w'=>e=.returned (.bool true)/\w'.os=w.os/\w'.output=w.output/\w.heap.size<=w'.heap.size/\∀b,b<w.heap.size->w'.heap[b]? =w.heap[b]? :=by
 obtain⟨x,hx⟩:=aeU _ _ hsh _ _ _ hA λj t v ht hv=>hok j t v (by simpa using ht) (by simpa using hv);have hin:=yY sh x _ hx;obtain⟨hp,ho⟩:=hF x hin;have hc:Fa sh F (qj sh x)=some ((F x).1,abg):=by
  grind [Fa,aeV]
 refine(hcon (qj sh x) _ _ 0 _ args w hc hp hG hx).mono ?_;rintro e w' ⟨v,vals,rfl,h1,h2,h3,h4,h5,h6,_,_⟩;have hv:v=.bool true:=h6
 grind
theorem ajz{w w':World}(h1:w'.os=w.os)(h3:w'.output=w.output)(h5:∀b,b<w.heap.size->w'.heap[b]? =w.heap[b]?)(may:MemPlace->Prop):w.keptBut w' may:=by
 refine⟨h1,h3,λi hi=>?_⟩
 grind
theorem ajA{w w':World}(h5:∀b,b<w.heap.size->w'.heap[b]? =w.heap[b]?){p:MemPlace}(hp:p.block<w.heap.size):w.sameAt w' p:=by
 cases p with
 |cell b off=>
  show w'.cell? _=w.cell? _;unfold World.cell?;rw[h5 b hp]
 |map b=>exact h5 b hp
end Go.Fw
namespace Go.Fw
open Go
variable {P:Program} {G:iP} {f:FuncId}
theorem mY.mono{X Y:V}(h:X.le Y):∀(a:Arg)(v:Value),mY X a v->mY Y a v
 |.sv x,v,H=>dm.mono h x v H
 |.kp cs,v,H=>aP.mono h (.dI cs 0) v H
 |.fn f caps,v,H=>aP.mono h (.fn f caps) v H
 |.own _ _ _,_,H|.ptr _,_,H=>H.elim
theorem Ia.mono{X Y:V}(h:X.le Y)(i:Nat):∀(a:Arg)(v:Value),Ia X i a v->Ia Y i a v
 |.own _ _ _,v,H=>aK.mono h (.ref (i*64+49)) v H
 |.ptr _,v,H=>aP.mono h (.dQ (i*64+48) 0) v H
 |.sv x,v,H=>mY.mono h (.sv x) v H
 |.kp cs,v,H=>mY.mono h (.kp cs) v H
 |.fn f caps,v,H=>mY.mono h (.fn f caps) v H
theorem vX.nil{X Y:V}(h:X.le Y){e:TypeId}{r:ak}:∀(args:List Arg)(vs:List Value)(j i:Nat),args[i]? =some (.sv (.one .nil))->
 Y.ah ((j+i)*64+49)=some (.arr e r [] false)->Y.γ ((j+i)*64+49)=.slice none 0 0->vX X j args vs->vX Y j (args.set i (.own e r [])) vs
 |[],[],_,i,ha,_,_,_=>by simp at ha
 |[],_::_,_,_,_,_,_,H=>H.elim
 |_::_,[],_,_,_,_,_,H=>H.elim
 |a::args,v::vs,j,0,ha,ho,hγ,⟨h1,h2⟩=>by
  have ha:a=.sv (.one .nil):=by simpa using ha
  subst ha;have hv:v=.slice none 0 0:=h1;refine⟨⟨⟨e,r,[],false,ho⟩,?_,by rw[hv];rfl⟩,?_⟩
  · grind
  .clear h1 ha ho hγ hv;generalize j+1=k at h2
   induction args generalizing k vs with
   |nil=>cases vs with
    |nil=>trivial
    |cons _ _=>exact h2.elim
   |cons b args ih=>cases vs with
    |nil=>exact h2.elim
    |cons u vs=>exact⟨Ia.mono h k b u h2.1,ih vs (k+1) h2.2⟩
 |a::args,v::vs,j,i+1,ha,ho,hγ,⟨h1,h2⟩=>by
  have e1:j+(i+1)=j+1+i:=by omega
  rw[e1]at ho hγ;exact⟨Ia.mono h j a v h1,vX.nil h args vs (j+1) i (by simpa using ha) ho hγ h2⟩
end Go.Fw
namespace Go.Fw
open Go
theorem af{b:Bool}{A B:Prop}(h1:b=true->A)(h2:b=false->B):cond b A B:=by
 grind
theorem drop_cons{α:Type}(a:List α)(n:Nat)(d:α)(h:n<a.length):a.drop n=a.getD n d::a.drop (n+1):=by
 simp_all
theorem fH(z:Int)(h:-9223372036854775808<=z/\z<=9223372036854775807):IntKind.i64.wrap z=z:=IntWalk.i64_in z (by omega)
theorem maxLen_eq:maxLen=9223372036854775807:=by decide
theorem cZ:big=4294967296:=rfl
theorem getD_mem{α:Type}{l:List α}{n:Nat}{d:α}(h:n<l.length):l.getD n d∈l:=by
 grind
end Go.Fw
namespace Go.Fw
open Go
end Go.Fw
namespace Go.Fw
open Go
variable {P:Program} {H:Type} {enc:TypeId×Value->H} {w:World}
theorem O0(hl:laidOutB P=true){base:Nat}{sp':Nat->Bool}{W W':World}:∀(ts:List TypeId)(_:ts.all (λt=>P.readableRec t&&decide (t<P.types.size))=true)
 (vs:List Value) (ds:List (DataW H)) (ps:List MemPlace),DataW.TrodAll enc P W base (λ_=>true) true ts vs ds ps->(∀p∈ps,W.sameAt W' p)->(∀p∈ps,sp' p.block=true)->DataW.TrodAll enc P W' base sp' true ts vs ds ps
 |[],_,vs,ds,ps,h,_,_=>by
  cases vs<;>cases ds<;>simp[DataW.TrodAll]at h ⊢;exact h
 |t::ts,ht,vs,ds,ps,h,h1,h2=>by
  rw[aqf,apt,apt]at ht;cases vs with
  |nil=>cases ds<;>simp[DataW.TrodAll]at h
  |cons v vs=>
   cases ds with
   |nil=>simp[DataW.TrodAll]at h
   |cons d ds=>
    obtain⟨a,b,g1,g2,rfl⟩:=h;exact⟨a,b,WideElems.Trod_stays hl ht.1.1 (aqn ht.1.2) g1 (λp hp=>h1 p (aqa _ hp)) (λp hp=>h2 p (aqa _ hp)),
     O0 hl ts ht.2 vs ds b g2 (λp hp=>h1 p (aqw _ hp)) (λp hp=>h2 p (aqw _ hp)),rfl⟩
theorem trodAll_length{base:Nat}{sp:Nat->Bool}{hd:Bool}{W:World}:∀(ts:List TypeId)(vs:List Value)(ds:List (DataW H))(ps:List MemPlace),DataW.TrodAll enc P W base sp hd ts vs ds ps->ds.length=ts.length
 |[],vs,ds,ps,h=>by cases vs<;>cases ds<;>simp[DataW.TrodAll]at h ⊢
 |t::ts,vs,ds,ps,h=>by
  cases vs with
  |nil=>cases ds<;>simp[DataW.TrodAll]at h
  |cons v vs=>
   cases ds with
   |nil=>simp[DataW.TrodAll]at h
   |cons d ds=>obtain⟨a,b,g1,g2,rfl⟩:=h;simp[trodAll_length ts vs ds b g2]
theorem ajB{fn:Func}{s:ChangeSpec}{apart fresh handsOn again:Bool}{W W':World}{args:Array Value}{ds gs:List (DataW H)}{before:List MemPlace}{tb:TypeId}
 (hvars:s.vars=[]) (hspec:∀l:List (DataW H),l.length=fn.params.toList.length->(s.fn H l).results=[.lit (.bool true)]/\(s.fn H l).args=l/\(s.fn H l).vars=[])
 (hres:fn.resultTypes=#[tb]) (hb:P.underlying tb=some .bool) (hl:laidOutB P=true) (hread:fn.params.toList.all (λt=>P.readableRec t&&decide (t<P.types.size))=true)
 (hW:DataW.Whole enc P fn.params.toList s.vars apart W args.toList ds gs before) (hos:W'.os=W.os) (hout:W'.output=W.output) (hheap:∀b,b<W.heap.size->W'.heap[b]? =W.heap[b]?):
 s.post enc P fn apart fresh handsOn again W args (.bool true) W':=by
 have hlt:=hW.lt;have hW0:=hW;obtain⟨p,q,hA,hV,hpq,hz,hn⟩:=hW;have hg:gs=[]/\q=[]:=by
  grind [DataW.TrodVars]
 obtain⟨rfl,rfl⟩:=hg;rw[aqe]at hpq;subst hpq;have hlen:=trodAll_length _ _ _ _ hA;obtain⟨r1,r2,r3⟩:=hspec (ds++[]) (by grind);rw[aqe]at r1 r2 r3;have hsame:∀x∈before,W.sameAt W' x:=λx hx=>ajA hheap (hlt x hx);have R:∀(b:Nat)(sp:Nat->Bool)(hd:Bool),DataW.TrodAll enc P W' b sp hd fn.resultTypes.toList ((Value.bool true).resultList fn.resultTypes.size) [.lit (.bool true)] []:=by intro b sp hd;rw[hres];exact⟨[],[],⟨1,by simp[DataW.trod,Value.cells,hb]⟩,rfl,rfl⟩
 have A:∀sp:Nat->Bool,(∀x∈before,sp x.block=true)->DataW.TrodAll enc P W' 0 sp true fn.params.toList args.toList ds before:=λsp hsp=>O0 hl _ hread _ _ _ hA hsame hsp;refine⟨ds,[],before,[],before,[],hW0,?_,?_,?_,ajz hos hout hheap _,λ_=>⟨?_,.lit (.bool true)::ds,[],before,⟨before,[],?_,?_,by simp,?_,hn⟩,λx hx _=>hx⟩⟩
 · grind
 · grind
 .rw[aqe,r3,hvars];rfl
 .intro j t r h1 h2;rw[hres]at h1 h2
  match j with
  |0=>
   simp[Value.resultList]at h1 h2;subst h1 h2;simp[Value.okWide,hb,Go.Cell.okWide,Go.Cell.ok]
  |j+1=>simp at h1
 .exact ChangeShapes.trodAll_append (A _ (λ_ _=>rfl)) (R _ _ _)
 .rw[hvars];rfl
 .intro b off hp;have hbl:=hlt _ hp;have e:W'.frozen? ⟨b,off,none⟩=W.frozen? ⟨b,off,none⟩:=by unfold World.frozen?;rw[hheap b hbl]
  rw[e];exact hz b off hp
end Go.Fw
namespace Go.Fw
open Go
theorem law_lifted{H:Type}{enc:TypeId×Value->H}{C:Checked}{G:iP}{os:Os}{f:FuncId}{fn:Func}{s:ChangeSpec}{conds:List PathCond}{apart fresh handsOn again:Bool}{tb:TypeId}{sh:List fC}{F:jB sh->Prop×Out}
 (own:ownKnob C.prog.godebug=none) (started:os.Started) (noInit:C.prog.inits.idxOf? f=none) (hfn:C.prog.funcs[f]? =some fn)
 (witness:∃(w:World)(tape:Tape)(i:Input),w.os=os/\(w.forCall tape i).Shaped C.prog/\i.vars=[]/\Input.okWide C.prog (w.forCall tape i) .any w.heap.size f i/\
   s.pre6 enc C.prog fn conds apart (w.forCall tape i).memory i.args/\({}:Assume).holds C.prog (lone (Frame.enter C.prog f i.args .normal) [] (w.forCall tape i)))
 (hcon:lV C.prog G f (Fa sh F)) (hsh:Il C.prog fn.params.toList=some sh) (hF:∀x,GI sh x->(F x).1/\(F x).2=abg) (hG:∀w,G.ok w)
 (hvars:s.vars=[]) (hspec:∀l:List (DataW H),l.length=fn.params.toList.length->(s.fn H l).results=[.lit (.bool true)]/\(s.fn H l).args=l/\(s.fn H l).vars=[])
 (hres:fn.resultTypes=#[tb]) (hb:C.prog.underlying tb=some .bool) (hl:laidOutB C.prog=true) (hread:fn.params.toList.all (λt=>C.prog.readableRec t&&decide (t<C.prog.types.size))=true):
 ReturnsInHanded {} C os f .any (s.pre6 enc C.prog fn conds apart) (s.post enc C.prog fn apart fresh handsOn again):=by
 refine returnsInHanded_of_change own started noInit hfn witness ?_;intro W base args ds gs before hval hW _ _;have hW0:=hW;obtain⟨p,q,hA,_⟩:=hW;refine(aiH hcon hsh hF (hG W) hA hval).mono ?_
 grind [ajB]
end Go.Fw
