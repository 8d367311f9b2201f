import Derived.Test.YtlmamafnoigopaaGreatDoorFwD
import Derived.Test.YtlmamafnoigopaaGreatDoorFwB
import Derived.Test.YtlmamafnoigopaaGreatDoorFwA
import Derived.ChangeArms
import Derived.WideKeyArgs
import Derived.ChangeSame
import Derived.ChangeOld
import Derived.Handed
import Derived.IntWalk
import Derived.Below
import Derived.ProofKit
namespace Go.Fw
open Go
variable {P:Program} {w0:World} {M:Nat->Prop} {T:Ext} {γ γ':Nat->Value} {st:St} {a:Act} {w w':World} {Θ:gY} {Γ:je}
structure F9 where
 ajs:List S9
 c:Shape
 v:Shape
structure Hints where
 own:Nat->Bool
 loops:Nat->Option F9
 cuts:Nat->Option F9
 upd:List Nat
 frz:Nat->List Pre
def uH:Code->Option Nat
 |.region id _ _=>some id
 |.seq x y=>match uH x with|some n=>some n|none=>uH y
 |.cond _ x y=>match uH x with|some n=>some n|none=>uH y
 |.block _ x|.loop x=>uH x
 |_=>none
def cutAt(H:Hints)(y:Code):Option F9:=match uH y with
 |some n=>H.cuts n
 |none=>none
def ER(Θ:gY)(Γ:je)(H:Hints):Code->(Exit->St->Prop)->St->Prop
 |.skip,Q,st=>Q .normal st
 |.region id ops false,Q,st=>OQ (H.frz id) (runs Θ Γ H.own ops.toList (Q .normal) ops.toList) st
 |.region id ops true,Q,st=>OQ (H.frz id) (KN Θ Γ H.own H.upd ops.toList (Q .normal)) st
 |.seq x y,Q,st=>match cutAt H y with
  |none=>ER Θ Γ H x (λe s=>match e with|.normal=>ER Θ Γ H y Q s|e=>Q e s) st
  |some sp=>match sp.c.read (only sp.c sp.v st)with
   |some x0=>∃(J:sp.v.den->Prop),ER Θ Γ H x (λe s=>match e with
     |.normal=>match settles s sp.ajs with
      |some s1=>match Nat.beq s1.n st.n,sp.c.read (only sp.c sp.v s1),sp.v.read (only sp.c sp.v s1)with
       |true,some x1,some y1=>x1=x0/\J y1
       |_,_,_=>False
      |none=>False
     |e=>Q e s) st/\∀y1,J y1->ER Θ Γ H y Q (joint st.n sp.c sp.v x0 y1)
   |none=>False
 |.cond c x y,Q,st=>match st.ev c with
  |.sv (.one (.bool b))=>cond b (ER Θ Γ H x Q st) (ER Θ Γ H y Q st)
  |_=>False
 |.block id c,Q,st=>ER Θ Γ H c (λe s=>match e with
  |.exit i=>match Nat.beq i id with|true=>Q .normal s|false=>Q (.exit i) s
  |e=>Q e s) st
 |.exit id,Q,st=>Q (.exit id) st
 |.ret,Q,st=>Q .ret st
 |.loop c,Q,st=>match uH c with
  |some n=>match H.loops n with
   |some sp=>match settles st sp.ajs with
    |some s0=>match sp.c.read (only sp.c sp.v s0),sp.v.read (only sp.c sp.v s0)with
     |some x0,some y0=>∃(I:sp.v.den->Prop)(μ:sp.v.den->Nat),I y0/\∀y,I y->
       ER Θ Γ H c (λe s=>match e with
        |.normal=>match settles s sp.ajs with
         |some s1=>match Nat.beq s1.n s0.n,sp.c.read (only sp.c sp.v s1),sp.v.read (only sp.c sp.v s1)with
          |true,some x1,some y1=>x1=x0/\I y1/\μ y1<μ y
          |_,_,_=>False
         |none=>False
        |e=>Q e s) (joint s0.n sp.c sp.v x0 y)
     |_,_=>False
    |none=>False
   |none=>False
  |none=>False
 |_,_,_=>False
theorem Tc{G:iV}(hE:pK P G Θ Γ w0 M)(hm:P.follows .mixedOrders=true)(H:Hints):∀(c:Code)(QA:Exit->St->Prop)(Q:Exit->Act->World->Prop)(st:St)(γ:Nat->Value)(a:Act)(w:World),
 Rel w0 M T γ st a w->ER Θ Γ H c QA st->(∀e s γ' a' w',QA e s->Rel w0 M T γ' s a' w'->Q e a' w')->c.wp P Q a w:=by
 intro c
 induction c with
 |skip=>intro QA Q st γ a w h ha hQ;exact wp_skip (hQ _ _ _ _ _ ha h)
 |region id ops d=>
  intro QA Q st γ a w h ha hQ;cases d with
  |false=>
   obtain⟨s0,γ0,h0,hk0⟩:=Bv (K:=runs Θ Γ H.own ops.toList (QA .normal) ops.toList) (H.frz id) st γ h ha
   grind [agM]
  |true=>
   obtain⟨s0,γ0,h0,hk0⟩:=Bv (K:=KN Θ Γ H.own H.upd ops.toList (QA .normal)) (H.frz id) st γ h ha
   grind [akO]
 |seq x y ihx ihy=>
  intro QA Q st γ a w h ha hQ;rw[ER]at ha;split at ha
  .refine wp_seq (ihx _ _ st γ a w h ha ?_);intro e s γ' a' w' hq hR;cases e<;>first|exact ihy _ _ s γ' a' w' hR hq hQ|exact hQ _ _ _ _ _ hq hR
  .next sp hsp=>
   split at ha
   .next x0 hx=>
    obtain⟨J,h1,h2⟩:=ha;refine wp_seq (ihx _ _ st γ a w h h1 ?_);intro e s γ' a' w' hq hR;cases e with
    |normal=>
     simp only at hq;split at hq
     .next s1 hs1=>
      split at hq
      .next x1 y1 hsn hx1 hy1=>obtain⟨rfl,hJ⟩:=hq;obtain⟨γ1,hR1⟩:=Rel.settles _ hR hs1;have hR2:=hR1.joint hx1 hy1;rw[asX hsn]at hR2;exact ihy _ _ _ γ1 a' w' hR2 (h2 _ hJ) hQ
      grind
     grind
    |_=>exact hQ _ _ _ _ _ hq hR
   grind
 |cond c x y ihx ihy=>
  intro QA Q st γ a w h ha hQ;rw[ER]at ha;split at ha
  .next b hb=>
   have hv:a.eval c=.bool b:=by have:=gU h c;rw[hb]at this;exact this
   grind [wp_cond_split]
  grind
 |block id c ih=>
  intro QA Q st γ a w h ha hQ;refine wp_block (ih _ _ st γ a w h ha ?_);intro e s γ' a' w' hq hR;cases e with
  |exit i=>
   simp only[Exit.inBlock];cases hb:Nat.beq i id with
   |true=>
    grind [Nat.eq_of_beq_eq_true]
   |false=>
    rw[if_neg (by rintro rfl;simp at hb)]
    grind
  |_=>exact hQ _ _ _ _ _ hq hR
 |loop c ih=>
  intro QA Q st γ a w h ha hQ;rw[ER]at ha;split at ha
  .split at ha
   .next sp hsp=>
    split at ha
    .next s0 hs0=>
     split at ha
     .next x0 y0 hx hy=>
      obtain⟨I,μ,h0,hI⟩:=ha;obtain⟨γ0,hR0⟩:=Rel.settles _ h hs0
      let J:sp.v.den->Act->World->Prop:=λy a' w'=>∃γ',Rel w0 M T γ' (joint s0.n sp.c sp.v x0 y) a' w'
      have key:∀(n:Nat)(y:sp.v.den),μ y=n->I y->∀a' w',J y a' w'->∀(b:Frame)(k:List Item)(cs:List Frame),
       ∃e a'' w'',Q e a'' w''/\Arrives P (lone (b.at a' (.code c:: .inLoop c::k)) cs w') b k cs e a'' w'':=by
       intro n
       induction n using Nat.strongRecOn with
       |_ n ihn=>
        intro y hμ hy' a' w' ⟨γ',hR⟩ b k cs;have hbody:=ih _ (Exit.then (λa2 w2=>∃y2,I y2/\μ y2<μ y/\J y2 a2 w2) Q) _ γ' a' w' hR (hI y hy') ?_
        .obtain⟨e,a1,w1,hq,harr⟩:=hbody b (.inLoop c::k) cs;cases e with
         |normal=>
          obtain⟨y2,hI2,hlt,hJ2⟩:=hq;obtain⟨e2,a2,w2,hq2,apj⟩:=ihn (μ y2) (hμ▸hlt) y2 rfl hI2 a1 w1 hJ2 b k cs;exact⟨e2,a2,w2,hq2,.of_steps (Steps.trans harr (.one step_inLoop)) apj⟩
         |exit id=>exact⟨_,a1,w1,hq,.pass (x:=.inLoop c) rfl (λ_ _=>.inl (by simp)) harr⟩
         |goto l=>exact⟨_,a1,w1,hq,.pass (x:=.inLoop c) rfl (λ_ _=>.inl (by simp)) harr⟩
         |ret=>exact⟨_,a1,w1,hq,.pass (x:=.inLoop c) rfl (λ_ _=>.inl (by simp)) harr⟩
         |panic ch=>exact⟨_,a1,w1,hq,.pass (x:=.inLoop c) rfl (λ_ _=>.inl (by simp)) harr⟩
         |outgrown=>exact⟨_,a1,w1,hq,.pass (x:=.inLoop c) rfl (λ_ _=>.inl (by simp)) harr⟩
        .intro e s γ2 a2 w2 hq hR2;cases e with
         |normal=>
          simp only at hq;split at hq
          .next s1 hs1=>
           split at hq
           .next x1 y1 hsn hx1 hy1=>obtain⟨rfl,hI1,hlt⟩:=hq;obtain⟨γ3,hR3⟩:=Rel.settles _ hR2 hs1;have hJ:=hR3.joint hx1 hy1;rw[asX hsn]at hJ;exact⟨y1,hI1,hlt,_,hJ⟩
           grind
          grind
         |_=>exact hQ _ _ _ _ _ hq hR2
      intro b k cs;obtain⟨e,a',w',hq,harr⟩:=key _ y0 rfl h0 a w ⟨_,hR0.joint hx hy⟩ b k cs;exact⟨e,a',w',hq,.of_steps (.one step_loop) harr⟩
     grind
    grind
   grind
  grind
 |rangeFunc f ps x y ihx ihy=>intro QA Q st γ a w h ha hQ;exact ha.elim
 |exit id=>intro QA Q st γ a w h ha hQ;exact wp_exit (hQ _ _ _ _ _ ha h)
 |scope c ih=>intro QA Q st γ a w h ha hQ;exact ha.elim
 |label l=>intro QA Q st γ a w h ha hQ;exact ha.elim
 |goto l=>intro QA Q st γ a w h ha hQ;exact ha.elim
 |ret=>intro QA Q st γ a w h ha hQ;exact wp_ret (hQ _ _ _ _ _ ha h)
 |refuse s=>intro QA Q st γ a w h ha hQ;exact ha.elim
def Arg.av:Arg->AV
 |.sv v=>.sv v
 |.kp cs=>.dA cs 0
 |.fn f caps=>.fn f caps
 |.own _ _ _|.ptr _=>.undef
def entry(n:Nat)(args:List Arg):St:=
 {n:=n,tmps:=λt=>match args[t]? with|some v=>v.av|none=>.undef,ah:=λ_=>none}
def KO(st:St)(o:Nat):Bool:=match st.ah o with|some (.arr _ _ _ _)=>true|_=>false
def aaf(Θ:gY)(st:St):ResultVar->Option SV
 |.tmp t=>match st.tmps t with|.sv v=>some v|_=>none
 |.cell t ty=>match Θ ty,st.tmps t with
  |some ti,.eG o off=>match st.ah o with
   |some (.var cs)=>jP ti cs off
   |_=>none
  |_,_=>none
def Js(Θ:gY)(st:St):List ResultVar->Option (List SV)
 |[]=>some []
 |r::rs=>match aaf Θ st r,Js Θ st rs with
  |some v,some vs=>some (v::vs)
  |_,_=>none
def outOf:SV->Bool×List dX
 |.one c=>(false,[.plain c])
 |.agg cs=>(true,cs.map .plain)
def outs:List SV->List (Bool×List dX)
 |[]=>[]
 |v::vs=>outOf (v.kill λ_=>true)::outs vs
def fin(Θ:gY)(rv:List ResultVar)(st:St):Option Out:=
 match Js Θ (st.freeze (KO st)) rv with
 |some vs=>some ⟨outs vs,none⟩
 |none=>none
theorem KP:∀(k:Nat)(cs:List Cell),jJ k (cs.map .plain)=(cs,[])
 |_,[]=>rfl
 |k,c::cs=>by simp only[att,jJ,KP (k+1) cs,dX.take,atM]
theorem aib(k:Nat)(v:SV):rX k (outOf v)=(v,[]):=by
 cases v with
 |one c=>rfl
 |agg cs=>simp only[rX,outOf,KP]
theorem anE(v:Value)(t:TypeId)(b off:Nat)(hv:v=.pointer (some ⟨b,off,none⟩)):Instr.loadAt t v=(do loadVar t (← asAddr v)):=by subst hv;rfl
def G9(tmps:Array Value):ResultVar->Sem Value
 |.tmp t=>pure (tmps.getD t undef)
 |.cell x t=>do loadVar t (← asAddr (tmps.getD x undef))
theorem OU(fn:Func)(tmps:Array Value):results fn tmps=(do let vs ← fn.results.mapM (G9 tmps);pure (if h:vs.size=1 then vs[0]else .tuple vs)):=by congr 1
theorem agO(hΘ:∀t ti,Θ t=some ti->jS P t ti)(h:Rel w0 M T γ st a w){r:ResultVar}{v:SV}(hf:aaf Θ st r=some v):
 ∃u,(G9 a.tmps r).run P w=.ok u w/\dw (aj w0 T γ st w) v u:=by
 cases r with
 |tmp t=>
  simp only[aaf]at hf;split at hf
  .next e=>cases hf;have:=h.tmps t;rw[e]at this;exact⟨_,rfl,this⟩
  .cases hf
 |cell x t=>
  simp only[aaf]at hf;split at hf
  .next ti o off ht hx=>
   split at hf
   .next cs ho=>have hv:=h.tmps x;rw[hx]at hv;obtain⟨b,cs',_,_,hv'⟩:=hv;obtain⟨u,hu,hr⟩:=KE hΘ h ht (x:=.tmp x) (.inl ⟨o,off,cs,hx,ho,hf⟩);refine⟨u,?_,hr⟩;rw[G9,← anE _ t b off hv'];exact hu
   .cases hf
  .cases hf
theorem Jt(hΘ:∀t ti,Θ t=some ti->jS P t ti)(h:Rel w0 M T γ st a w):∀(rs:List ResultVar)(vs:List SV),Js Θ st rs=some vs->
 ∃us,(rs.mapM (G9 a.tmps)).run P w=.ok us w/\
  dB (aj w0 T γ st w) vs us
 |[],vs,hf=>by cases hf;exact⟨[],rfl,trivial⟩
 |r::rs,vs,hf=>by
  rw[Js]at hf;split at hf
  .next v vs' h1 h2=>
   cases hf;obtain⟨u,hu,hr⟩:=agO hΘ h h1;obtain⟨us,hus,hrs⟩:=Jt hΘ h rs vs' h2;refine⟨u::us,?_,hr,hrs⟩
   simp_all
  .cases hf
theorem dB.length{X:V}:∀(cs:List SV)(vs:List Value),dB X cs vs->vs.length=cs.length
 |[],[],_=>rfl
 |_::cs,_::vs,⟨_,h⟩=>by simp[dB.length cs vs h]
 |[],_::_,H|_::_,[],H=>by cases H
theorem dB.get{X:V}:∀(cs:List SV)(vs:List Value)(i:Nat)(c:SV),dB X cs vs->cs[i]? =some c->∃v,vs[i]? =some v/\dw X c v
 |[],_,_,_,_,h=>by simp at h
 |c::cs,v::vs,0,d,⟨h1,_⟩,h=>by grind
 |c::cs,v::vs,i+1,d,⟨_,h2⟩,h=>by
  obtain⟨u,hu,hr⟩:=dB.get cs vs i d h2 (by simpa using h);exact⟨u,by simpa using hu,hr⟩
 |_::_,[],_,_,H,_=>by cases H
theorem lS.length{X:V}:∀(cs:List Arg)(vs:List Value),lS X cs vs->vs.length=cs.length
 |[],[],_=>rfl
 |_::cs,_::vs,⟨_,h⟩=>by simp[lS.length cs vs h]
 |[],_::_,H|_::_,[],H=>by cases H
theorem lS.get{X:V}:∀(cs:List Arg)(vs:List Value)(i:Nat)(c:Arg),lS X cs vs->cs[i]? =some c->∃v,vs[i]? =some v/\mM X c v
 |[],_,_,_,_,h=>by simp at h
 |c::cs,v::vs,0,d,⟨h1,_⟩,h=>by grind
 |c::cs,v::vs,i+1,d,⟨_,h2⟩,h=>by
  obtain⟨u,hu,hr⟩:=lS.get cs vs i d h2 (by simpa using h);exact⟨u,by simpa using hu,hr⟩
 |_::_,[],_,_,H,_=>by cases H
theorem mM.av{X:V}:∀(c:Arg)(v:Value),mM X c v->aQ X c.av v
 |.sv _,_,h|.kp _,_,h|.fn _ _,_,h=>h
 |.own _ _ _,_,h|.ptr _,_,h=>h.elim
theorem akP{args:List Arg}{vs:Array Value}{S:Nat->Prop}(n:Nat)(hn:args.length<=n)
 (h:lS ⟨w,w.heap.size,S,λ_=>undef,λ_=>none⟩ args vs.toList):
 Rel w (λ_=>False) ⟨S,λ_=>none,λ_ _ h=>by cases h⟩ (λ_=>undef) (entry n args) {tmps:=vs++Array.replicate (n-vs.size) undef,defers:=[]} w:=by
 have hl:vs.size=args.length:=by simpa using lS.length _ _ h
 refine⟨λ_ h=>h.elim,rfl,?_,rfl,rfl,rfl,as7 _,λ_ _ _=>rfl,λt=>?_,(λo x hx=>by cases hx),(λo x b hx=>by cases hx),(λo x p y b hx=>by cases hx),(λo v cs hN=>by cases hN)⟩
 · grind [entry]
 .simp only[entry];cases ha:args[t]? with
  |none=>trivial
  |some v=>
   obtain⟨u,hu,hr⟩:=lS.get _ _ t v h ha;have:(vs++Array.replicate (n-vs.size) undef).getD t undef=u:=by
    have hlt:t<args.length:=by
     grind
    simp_all [auz]
   grind [mM.av]
end Go.Fw
namespace Go.Fw
def codeOf(fn:Func):Code:=match fn.body with|some c=>c|none=>.skip
def aag:List (Nat×TI)->gY
 |[],_=>none
 |(t,x)::r,i=>match Nat.beq i t with|true=>some x|false=>aag r i
def Gq:List (Nat×EG)->je
 |[],_=>none
 |(t,x)::r,i=>match Nat.beq i t with|true=>some x|false=>Gq r i
def ajt:List (Nat×F9)->Nat->Option F9
 |[],_=>none
 |(t,x)::r,i=>match Nat.beq i t with|true=>some x|false=>ajt r i
def am5:List (Nat×List Pre)->Nat->List Pre
 |[],_=>[]
 |(n,z)::r,i=>match Nat.beq i n with|true=>z|false=>am5 r i
def hints(own:List Nat)(l c:List (Nat×F9))(u:List Nat)(z:List (Nat×List Pre)):Hints:=⟨aO own,ajt l,ajt c,u,am5 z⟩
end Go.Fw
namespace Go.Fw
open Go
variable {P:Program} {Θ:gY} {Γ:je}
inductive kG where
 |one (c:eY)
 |agg (l:List eY)
@[reducible] def kG.den:kG->Type
  |.one c=>c.den
  |.agg l=>jY l
def kG.val:(s:kG)->s.den->SV
 |.one c,x=>.one (c.cell x)
 |.agg l,x=>.agg (gu l x)
def kG.read:(s:kG)->SV->Option s.den
 |.one c,.one x=>c.read x
 |.agg l,.agg xs=>iZ l xs
 |_,_=>none
theorem kG.weak{X:V}(s:kG)(x:SV)(d:s.den)(v:Value)(hr:s.read x=some d)(hv:dw X x v):dw X (s.val d) v:=by
 unfold kG.read at hr;split at hr
 .exact eY.weak _ _ _ _ hr hv
 .obtain⟨vs,e,h⟩:=hv;exact⟨vs,e,CP _ _ _ _ hr h⟩
 .cases hr
@[reducible] def o7:List kG->Type
  |[]=>Unit
  |s::r=>s.den×o7 r
def tX:(l:List kG)->o7 l->List SV
 |[],_=>[]
 |s::r,x=>s.val x.1::tX r x.2
def Nr:(l:List kG)->List SV->Option (o7 l)
 |[],[]=>some ()
 |s::r,x::xs=>match s.read x,Nr r xs with
  |some a,some b=>some (a,b)
  |_,_=>none
 |_,_=>none
theorem akQ{X:V}:∀(l:List kG)(xs:List SV)(d:o7 l)(vs:List Value),Nr l xs=some d->dB X xs vs->dB X (tX l d) vs
 |[],[],_,_,_,hv=>hv
 |s::r,x::xs,d,vs,hr,hv=>by
  rw[Nr]at hr;split at hr
  .next a b h1 h2=>
   cases hr;cases vs with
   |nil=>cases hv
   |cons v vs=>exact⟨kG.weak s x a v h1 hv.1,akQ r xs b vs h2 hv.2⟩
  .cases hr
 |[],_::_,_,_,hr,_=>by grind [Nr]
 |_::_,[],_,_,hr,_=>by grind [Nr]
mutual
def CT.qj:(c:CT)->c.den->Prop
 |.int k,(n:Int)=>k.min<=n/\n<=k.max
 |.bool,_=>True
 |.str,(s:Bytes)=>s.length<=maxLen
 |.sl _ r,(l:List r.den)=>l.length<=maxLen/\∀x∈l,r.qj x
def ak.qj:(r:ak)->r.den->Prop
 |.nil,_=>True
 |.cons c r,x=>c.qj x.1/\r.qj x.2
end
mutual
theorem dW.qj{h:Array Obj}{S:Nat->Prop}:∀(c:CT)(v:Value)(x:c.den),dW h S c v x->c.qj x
 |.int k,v,(n:Int),H=>by rw[dW]at H;rw[CT.qj];exact H.2
 |.bool,v,(b:Bool),H=>by rw[CT.qj];trivial
 |.str,v,(s:Bytes),H=>by rw[dW]at H;rw[CT.qj];exact H.2
 |.sl e r,v,(l:List r.den),H=>by
  rw[dW]at H;rw[CT.qj];refine⟨H.1,λx hx=>?_⟩;obtain⟨i,hi,rfl⟩:=auW.1 hx;rcases H.2 with⟨hnil,_⟩|⟨b,off,cap,cs,t,fz,_,_,_,_,hr⟩
  .subst hnil;simp at hi
  .exact aZ.qj r _ _ (hr i _ (as5 hi))
theorem aZ.qj{h:Array Obj}{S:Nat->Prop}:∀(r:ak)(vs:List Value)(x:r.den),aZ h S r vs x->r.qj x
 |.nil,vs,_,H=>by rw[ak.qj];trivial
 |.cons c r,vs,(x,y),H=>by rw[aZ]at H;obtain⟨v,vs',_,h1,h2⟩:=H;rw[ak.qj];exact⟨dW.qj c v x h1,aZ.qj r vs' y h2⟩
end
def eY.qj:(c:eY)->c.den->Prop
 |.int k,(n:Int)=>k.min<=n/\n<=k.max
 |.str,(s:Bytes)=>s.length<=maxLen
 |.sl _ r _,(l:List r.den)=>l.length<=maxLen/\∀x∈l,r.qj x
 |_,_=>True
def Vu:(l:List eY)->jY l->Prop
 |[],_=>True
 |c::r,x=>c.qj x.1/\Vu r x.2
def kG.qj:(s:kG)->s.den->Prop
 |.one c,x=>c.qj x
 |.agg l,x=>Vu l x
theorem eY.Vw{X:V}(c:eY)(x:c.den)(v:Value)(h:aK X (c.cell x) v):c.qj x:=by
 cases c with
 |int k=>exact h.2
 |str=>exact h.2
 |sl e r fr=>
  have h':dW X.w.heap (X.bP fr) (.sl e r) v x:=h;have:=dW.qj (.sl e r) v x h';exact this
 |_=>trivial
theorem He{X:V}:∀(l:List eY)(x:jY l)(vs:List Value),ai X (gu l x) vs->Vu l x
 |[],_,_,_=>trivial
 |c::r,x,v::vs,h=>⟨eY.Vw c x.1 v h.1,He r x.2 vs h.2⟩
 |_::_,_,[],h=>by cases h
inductive fQ where
 |v (s:kG)
 |kp (l:List eY)
 |fn (f:FuncId) (l:List (List eY))
@[reducible] def fQ.den:fQ->Type
  |.v s=>s.den
  |.kp l=>jY l
  |.fn _ l=>yG l
def fQ.val:(s:fQ)->s.den->Arg
 |.v s,x=>.sv (s.val x)
 |.kp l,x=>.kp (gu l x)
 |.fn f l,x=>.fn f (G7 l x)
def fQ.read:(s:fQ)->Arg->Option s.den
 |.v s,.sv x=>s.read x
 |.kp l,.kp xs=>iZ l xs
 |.fn f l,.fn g xs=>match Nat.beq f g with|true=>D8 l xs|false=>none
 |_,_=>none
theorem fQ.weak{X:V}(s:fQ)(x:Arg)(d:s.den)(v:Value)(hr:s.read x=some d)(hv:mM X x v):mM X (s.val d) v:=by
 unfold fQ.read at hr;split at hr
 .exact kG.weak _ _ _ _ hr hv
 .obtain⟨b,e,hk⟩:=hv;exact⟨b,e,aeK hr hk⟩
 .split at hr
  .next hb=>obtain⟨us,e,hk⟩:=hv;rw[fQ.val,asX hb];exact⟨us,e,SX _ _ _ _ hr hk⟩
  .cases hr
 .cases hr
@[reducible] def jD:List fQ->Type
  |[]=>Unit
  |s::r=>s.den×jD r
def qZ:(l:List fQ)->jD l->List Arg
 |[],_=>[]
 |s::r,x=>s.val x.1::qZ r x.2
def ES:(l:List fQ)->List Arg->Option (jD l)
 |[],[]=>some ()
 |s::r,x::xs=>match s.read x,ES r xs with
  |some a,some b=>some (a,b)
  |_,_=>none
 |_,_=>none
theorem Td{X:V}:∀(l:List fQ)(xs:List Arg)(d:jD l)(vs:List Value),ES l xs=some d->lS X xs vs->lS X (qZ l d) vs
 |[],[],_,_,_,hv=>hv
 |s::r,x::xs,d,vs,hr,hv=>by
  rw[ES]at hr;split at hr
  .next a b h1 h2=>
   cases hr;cases vs with
   |nil=>cases hv
   |cons v vs=>exact⟨fQ.weak s x a v h1 hv.1,Td r xs b vs h2 hv.2⟩
  .cases hr
 |[],_::_,_,_,hr,_=>by grind [ES]
 |_::_,[],_,_,hr,_=>by grind [ES]
theorem Qp:∀(l:List fQ)(d:jD l),(qZ l d).length=l.length
 |[],_=>rfl
 |_::r,d=>by simp[qZ,Qp r d.2]
def ac3:(l:List (List eY))->yG l->Prop
 |[],_=>True
 |c::r,x=>Vu c x.1/\ac3 r x.2
def fQ.qj:(s:fQ)->s.den->Prop
 |.v s,x=>s.qj x
 |.kp l,x=>Vu l x
 |.fn _ l,x=>ac3 l x
def IA:(l:List fQ)->jD l->Prop
 |[],_=>True
 |s::r,x=>s.qj x.1/\IA r x.2
theorem Xb{X:V}:∀(l:List (List eY))(x:yG l)(us:List Value),dS X (G7 l x) us->ac3 l x
 |[],_,_,_=>trivial
 |c::r,x,u::us,h=>by
  obtain⟨⟨b,hu,arr,t,fz,hf,hh,hc⟩,h2⟩:=h;exact⟨He c x.1 _ hc,Xb r x.2 us h2⟩
 |_::_,_,[],h=>by cases h
theorem Aa{X:V}:∀(l:List fQ)(x:jD l)(vs:List Value),lS X (qZ l x) vs->IA l x
 |[],_,_,_=>trivial
 |.v (.one c)::r,x,v::vs,h=>⟨eY.Vw c x.1 v h.1,Aa r x.2 vs h.2⟩
 |.v (.agg l)::r,x,v::vs,h=>by
  obtain⟨ws,hv,hc⟩:=h.1;exact⟨He l x.1 _ hc,Aa r x.2 vs h.2⟩
 |.kp l::r,x,v::vs,h=>by
  obtain⟨b,hu,arr,t,fz,hf,hh,hc⟩:=h.1;exact⟨He l x.1 _ hc,Aa r x.2 vs h.2⟩
 |.fn f l::r,x,v::vs,h=>by
  obtain⟨us,hv,hk⟩:=h.1;exact⟨Xb l x.1 _ hk,Aa r x.2 vs h.2⟩
 |_::_,_,[],h=>by cases h
def Dz(sh:List fQ)(F:jD sh->Prop×Out):Kw:=λargs=>
 match ES sh args with
 |some x=>some (F x)
 |none=>none
def BA:List SV->List (Bool×List dX)
 |[]=>[]
 |v::vs=>outOf v::BA vs
theorem Ns:∀(k:Nat)(vs:List SV),gQ k (BA vs)=(vs,[])
 |_,[]=>rfl
 |k,v::vs=>by simp only[BA,gQ,aib,Ns,atM]
def aah(Θ:gY)(rv:List ResultVar)(dh:List kG)(K:o7 dh->Prop)(e:Exit)(st:St):Prop:=
 match e with
 |.normal|.ret=>match Js Θ (st.freeze (KO st)) rv with
  |some vs=>match Nr dh (vs.map (SV.kill λ_=>true))with
   |some d=>K d
   |none=>False
  |none=>False
 |_=>False
theorem anF{G:iV}(hE:EnvB P G Θ Γ)(hm:P.follows .mixedOrders=true){f:FuncId}{fn:Func}{c:Code}(hf:P.funcs[f]? =some fn)(hb:fn.body=some c)(H:Hints){con:Kw}{dh:List kG}
 (hwalk:∀args p out,con args=some (p,out)->p->Nat.ble args.length fn.ntmps=true/\∃d:o7 dh,out=⟨BA (tX dh d),none⟩/\ER Θ Γ H c (aah Θ fn.results.toList dh λy=>y=d) (entry fn.ntmps args)):iM P G f con:=by
 intro args p out k S vs w hcon hp hG hrep;obtain⟨hn,d,hout,hw⟩:=hwalk args p out hcon hp;subst hout;have hn':args.length<=fn.ntmps:=by simp_all
 refine calls_of_wp hf hb (Tc ⟨hE,hG,λb hb=>hb.elim⟩ hm H c _ _ _ _ _ _ (akP (S:=S) fn.ntmps hn' hrep) hw ?_);have hret:∀s γ' a' w',aah Θ fn.results.toList dh (λy=>y=d) .ret s->Rel w (λ_=>False) ⟨S,λ_=>none,λ_ _ h=>by cases h⟩ γ' s a' w'->bodyPost P fn (λe w'=>∃v vals,e=.returned v/\w'.os=w.os/\w'.tape=w.tape/\w'.output=w.output/\w.heap.size<=w'.heap.size/\
  (∀b,b<w.heap.size->w'.heap[b]? =w.heap[b]?)/\
  aQ ⟨w',w.heap.size,S,vals,look (Out.take k ⟨BA (tX dh d),none⟩).2⟩ (Out.take k ⟨BA (tX dh d),none⟩).1 v/\
  (∀o x,look (Out.take k ⟨BA (tX dh d),none⟩).2 o=some x->bD ⟨w',w.heap.size,S,vals,look (Out.take k ⟨BA (tX dh d),none⟩).2⟩ o x/\∀b,blk (vals o)=some b->w.heap.size<=b/\b<w'.heap.size)/\
  (∀o x q y b,look (Out.take k ⟨BA (tX dh d),none⟩).2 o=some x->look (Out.take k ⟨BA (tX dh d),none⟩).2 q=some y->o≠q->blk (vals o)=some b->blk (vals q)≠some b)) .ret a' w':=by
  intro s γ' a' w' he hR;refine⟨hR.defers,?_⟩;simp only[aah]at he;split at he
  .next svs hvs=>
   split at he
   .next y hy=>
    subst he;have hRf:=hR.freeze (KO s);obtain⟨us,hus,hrs⟩:=Jt hE.types hRf _ _ hvs;have hk0:=dB.kill (λ_=>true) hRf svs us hrs;have hk:=akQ dh _ y us hy hk0;have htake:Out.take k ⟨BA (tX dh y),none⟩=(match tX dh y with|[v]=>.sv v|l=>.kZ l,[]):=by
     grind [Out.take,Ns]
    have hmap:(fn.results.mapM (G9 a'.tmps)).run P w'=.ok us.toArray w':=by
     simp_all [au8]
    refine⟨if h:us.toArray.size=1 then us.toArray[0]else .tuple us.toArray,?_,_,γ',rfl,hR.os,hR.tape,hR.output,hR.grow,λb hb=>hR.kept b hb (λh=>h),?_,?_,?_⟩
    .rw[OU,atx,hmap]
     simp_all
    .rw[htake];have hl:=dB.length _ _ hk
     match hm:tX dh y,us,hk,hl with
     |[v],[u],hk,_=>exact hk.1
     |[],[],hk,_=>exact⟨_,by simp,hk⟩
     |v::v2::r,u::u2::us,hk,hl=>exact⟨_,by simp,hk⟩
     |[],_::_,hk,h4|_::_,[],hk,h4|[_],_::_::_,hk,h4|_::_::_,[_],hk,h4=>simp at h4
    .intro o x hx;rw[htake]at hx;cases hx
    .intro o x q y b hx;rw[htake]at hx;cases hx
   grind
  grind
 intro e s γ' a' w' he hR;cases e with
 |normal=>exact hret s γ' a' w' he hR
 |ret=>grind
 |_=>exact he.elim
def lZ(sh:List fQ)(dh:List kG)(F:jD sh->Prop×o7 dh):Kw:=Dz sh λx=>((F x).1,⟨BA (tX dh (F x).2),none⟩)
theorem ac4{G:iV}(hE:EnvB P G Θ Γ)(hm:P.follows .mixedOrders=true){f:FuncId}{fn:Func}{c:Code}(hf:P.funcs[f]? =some fn)(hb:fn.body=some c)(H:Hints)
 {sh:List fQ} {dh:List kG} {F:jD sh->Prop×o7 dh} (hn:Nat.ble sh.length fn.ntmps=true)
 (hwalk:∀x,IA sh x->(F x).1->ER Θ Γ H c (aah Θ fn.results.toList dh λy=>y=(F x).2) (entry fn.ntmps (qZ sh x))):iM P G f (lZ sh dh F):=by
 have base:∀x,IA sh x->iM P G f (λargs=>@ite _ (args=qZ sh x) (Classical.propDecidable _) (some ((F x).1,⟨BA (tX dh (F x).2),none⟩)) none):=by
  intro x hin;refine anF (dh:=dh) hE hm hf hb H ?_
  grind [Qp]
 intro args p out k S vs w hcon hp hG hrep;unfold lZ Dz at hcon;split at hcon
 .next x hx=>have hv:=Td sh args x vs.toList hx hrep;exact base x (Aa sh x _ hv) (qZ sh x) p out k S vs w (by grind) hp hG hv
 .cases hcon
inductive RC where
 |c (s:eY)
 |own (e:TypeId) (r:ak) (fr:Bool)
@[reducible] def RC.den:RC->Type
  |.c s=>s.den
  |.own _ r _=>List r.den
@[reducible] def aai:List RC->Type
  |[]=>Unit
  |c::r=>c.den×aai r
def RC.aju:(c:RC)->c.den->dX
 |.c s,x=>.plain (s.cell x)
 |.own e r fr,l=>.own e r l fr
def ac5:(l:List RC)->aai l->List dX
 |[],_=>[]
 |c::r,x=>c.aju x.1::ac5 r x.2
inductive lJ where
 |one (c:RC)
 |agg (l:List RC)
@[reducible] def lJ.den:lJ->Type
  |.one c=>c.den
  |.agg l=>aai l
@[reducible] def yS:List lJ->Type
  |[]=>Unit
  |s::r=>s.den×yS r
def lJ.out:(s:lJ)->s.den->Bool×List dX
 |.one c,x=>(false,[c.aju x])
 |.agg l,x=>(true,ac5 l x)
def iq:(l:List lJ)->yS l->List (Bool×List dX)
 |[],_=>[]
 |s::r,x=>s.out x.1::iq r x.2
def RC.name:RC->Cell->Option Nat
 |.own _ _ _,.ref o=>some o
 |_,_=>none
def ac6:List RC->List Cell->List (Option Nat)
 |c::r,x::xs=>c.name x::ac6 r xs
 |_,_=>[]
def lJ.names:lJ->SV->List (Option Nat)
 |.one c,.one x=>[c.name x]
 |.agg l,.agg xs=>ac6 l xs
 |_,_=>[]
def yH:List lJ->List SV->List (Option Nat)
 |s::r,x::xs=>s.names x++yH r xs
 |_,_=>[]
def RC.read(st:St):(c:RC)->Cell->Option c.den
 |.c s,x=>match x.refs with|[]=>s.read x|_=>none
 |.own e r fr,.ref o=>match st.ah o with
  |some (.arr f s l g)=>match Nat.beq e f&&Jr fr g with
   |true=>if h:s.beq r=true then some (qR h l)else none
   |false=>none
  |_=>none
 |.own _ r _,.nil=>match Nat.ble 1 r.len with|true=>some []|false=>none
 |_,_=>none
def Nu(st:St):(l:List RC)->List Cell->Option (aai l)
 |[],[]=>some ()
 |c::r,x::xs=>match c.read st x,Nu st r xs with
  |some a,some b=>some (a,b)
  |_,_=>none
 |_,_=>none
def lJ.read(st:St):(s:lJ)->SV->Option s.den
 |.one c,.one x=>c.read st x
 |.agg l,.agg xs=>Nu st l xs
 |_,_=>none
def Ac(st:St):(l:List lJ)->List SV->Option (yS l)
 |[],[]=>some ()
 |s::r,x::xs=>match s.read st x,Ac st r xs with
  |some a,some b=>some (a,b)
  |_,_=>none
 |_,_=>none
inductive gZ where
 |p (s:fQ)
 |own (e:TypeId) (r:ak)
 |ptr (l:List eY)
@[reducible] def gZ.den:gZ->Type
  |.p s=>s.den
  |.own _ r=>List r.den
  |.ptr l=>jY l
def gZ.mode:gZ->Mode
 |.p _=>.val
 |.own _ _=>.own
 |.ptr _=>.ptr
def gZ.val:(s:gZ)->s.den->Arg
 |.p s,x=>s.val x
 |.own e r,l=>.own e r l
 |.ptr l,x=>.ptr (gu l x)
def gZ.read:(s:gZ)->Arg->Option s.den
 |.p s,x=>s.read x
 |.own e r,.own f s l=>match Nat.beq e f with
  |true=>if h:s.beq r=true then some (qR h l)else none
  |false=>none
 |.ptr l,.ptr cs=>iZ l cs
 |_,_=>none
@[reducible] def mr:List gZ->Type
  |[]=>Unit
  |s::r=>s.den×mr r
def tY:(l:List gZ)->mr l->List Arg
 |[],_=>[]
 |s::r,x=>s.val x.1::tY r x.2
def kz:(l:List gZ)->List Arg->Option (mr l)
 |[],[]=>some ()
 |s::r,x::xs=>match s.read x,kz r xs with
  |some a,some b=>some (a,b)
  |_,_=>none
 |_,_=>none
@[reducible] def wP:List gZ->Type
  |[]=>Unit
  |.ptr l::r=>jY l×wP r
  |.p _::r|.own _ _::r=>wP r
def jy:(l:List gZ)->wP l->List Eff
 |[],_=>[]
 |.ptr l::r,x=>.var (gu l x.1)::jy r x.2
 |.p _::r,x|.own _ _::r,x=>.lose::jy r x
def Hf(st:St):(i:Nat)->(l:List gZ)->Option (wP l)
 |_,[]=>some ()
 |i,.ptr l::r=>match st.ah (i*64+48),Hf st (i+1) r with
  |some (.var cs),some b=>match cs.flatMap Cell.refs,iZ l cs with
   |[],some a=>some (a,b)
   |_,_=>none
  |_,_=>none
 |i,.p _::r|i,.own _ _::r=>Hf st (i+1) r
def Arg.avX(i:Nat):Arg->AV
 |.own _ _ _=>.sv (.one (.ref (i*64+49)))
 |.ptr _=>.eG (i*64+48) 0
 |a=>a.av
def CS(n:Nat)(args:List Arg):St:=
 {n:=n,tmps:=λt=>match args[t]? with|some v=>v.avX t|none=>.undef,ah:=eX args}
def aaj(st:St)(W:List (Option Nat))(o:Nat):Bool:=KO st o&&!(Sl o W)
def afX(Θ:gY)(rv:List ResultVar)(sh:List gZ)(dh:List lJ)(K:yS dh×wP sh->Prop)(e:Exit)(st:St):Prop:=
 match e with
 |.normal|.ret=>match Js Θ st rv with
  |some svs=>match Js Θ (st.freeze (aaj st (yH dh svs))) rv with
   |some vs=>match vU (yH dh vs),Ac (st.freeze (aaj st (yH dh svs))) dh vs,Hf (st.freeze (aaj st (yH dh svs))) 0 sh with
    |true,some d,some b=>K (d,b)
    |_,_,_=>False
   |none=>False
  |none=>False
 |_=>False
def agf(sh:List gZ)(dh:List lJ)(F:mr sh->Prop×(yS dh×wP sh->Prop)):RV:=λargs=>
 match kz sh args with
 |some x=>some ((F x).1,⟨yS dh×wP sh,(F x).2,λt=>⟨iq dh t.1,none⟩,λt=>jy sh t.2⟩)
 |none=>none
def agQ(sh:List gZ):List Mode:=sh.map gZ.mode
end Go.Fw
namespace Go.Fw
open Go
variable {P:Program} {w0:World} {M:Nat->Prop} {T:Ext} {γ γ':Nat->Value} {st:St} {a:Act} {w w':World} {Θ:gY} {Γ:je}
def ac7(args:List Arg)(γ:Nat->Value)(o:Nat):Option Value:=match eX args o with|some (.var _)=>some (γ o)|_=>none
theorem alV{args:List Arg}{o:Nat}{cs:List Cell}(h:eX args o=some (.var cs)):o%64=48:=by
 unfold eX at h;split at h
 .split at h<;>cases h
 · grind [Nat.eq_of_beq_eq_true]
 .cases h
def Tf(args:List Arg)(γ:Nat->Value)(S:Nat->Prop):Ext where
 S:=λb=>S b\/xE (eX args) γ b
 N:=ac7 args γ
 n48:=by
  intro p v h;unfold ac7 at h;split at h
  .next cs hc=>exact alV hc
  .cases h
theorem xC.get{X:V}:∀(as:List Arg)(vs:List Value)(i:Nat),xC X i as vs->as.length=vs.length/\∀(j:Nat)(b:Arg),as[j]? =some b->∃v,vs[j]? =some v/\Jl X (i+j) b v
 |[],[],_,_=>⟨rfl,λj b h=>by simp at h⟩
 |x::as,v::vs,i,⟨h1,h2⟩=>by
  obtain⟨g1,g2⟩:=xC.get as vs (i+1) h2;refine⟨by simp[g1],λj b hb=>?_⟩;cases j with
  |zero=>grind
  |succ j=>
   grind
 |[],_::_,_,H|_::_,[],_,H=>by cases H
theorem Jl.av{X:V}(i:Nat):∀(c:Arg)(v:Value),Jl X i c v->aQ X (c.avX i) v
 |.own _ _ _,_,h=>h
 |.ptr _,_,h=>h
 |.sv _,_,h|.kp _,_,h|.fn _ _,_,h=>h
theorem aak{args:List Arg}{vs:Array Value}{S:Nat->Prop}(n:Nat)(hn:args.length<=n)
 (h:xC ⟨w,w.heap.size,S,γ,eX args⟩ 0 args vs.toList)
 (ho:∀o x,eX args o=some x->bD ⟨w,w.heap.size,S,γ,eX args⟩ o x/\∀b,blk (γ o)=some b->b<w.heap.size)
 (hs:∀o x q y b,eX args o=some x->eX args q=some y->o≠q->blk (γ o)=some b->blk (γ q)≠some b):
 Rel w (xE (eX args) γ) (Tf args γ S) γ (CS n args) {tmps:=vs++Array.replicate (n-vs.size) undef,defers:=[]} w:=by
 obtain⟨hl0,hget⟩:=xC.get _ _ 0 h;have hl:vs.size=args.length:=by grind
 have le:V.le ⟨w,w.heap.size,S,γ,eX args⟩ ⟨w,w.heap.size,(Tf args γ S).S,γ,eX args⟩:=
  ⟨as7 _,λb hb=>⟨⟨hb.1,λhlt=>.inl (hb.2.1 hlt),hb.2.2⟩,rfl⟩,λo cs hx=>⟨⟨cs,hx⟩,rfl⟩,λo e r l fr hx=>⟨⟨l,fr,hx⟩,rfl⟩⟩
 refine⟨λb hb=>.inr hb,rfl,?_,rfl,rfl,rfl,as7 _,λ_ _ _=>rfl,λt=>?_,λo x hx=>bD.mono le o x (λ_ _=>rfl) rfl (ho o x hx).1,λo x b hx hb=>⟨(ho o x hx).2 b hb,.inr ⟨o,x,hx,hb⟩⟩,λo x p y b hx hy hop hb=>hs o x p y b hx hy hop hb,λo v cs hN hx=>?_⟩
 · grind [CS]
 .simp only[CS];cases ha:args[t]? with
  |none=>trivial
  |some v=>
   obtain⟨u,hu,hr⟩:=hget t v ha;have:(vs++Array.replicate (n-vs.size) undef).getD t undef=u:=by
    have hlt:t<args.length:=by
     grind
    have hlt':t<vs.size:=by omega
    rw[au1,auz hlt']
    grind
   grind [aQ.mono,Jl.av]
 .have hN':ac7 args γ o=some v:=hN
  grind [ac7]
def AW(a a':Arg):Prop:=
 (∃e r l,a=.own e r l/\a'=.own e r l)\/(∃cs cs',a=.ptr cs/\a'=.ptr cs'/\∀(X:V) vs,ai X cs vs->ai X cs' vs)\/
 ((∀(X:V) v,aQ X a.av v->aQ X a'.av v)/\(∀i,a.avX i=a.av)/\(∀i,a'.avX i=a'.av)/\(∀e r l,a≠ .own e r l)/\(∀cs,a≠ .ptr cs)/\(∀e r l,a'≠ .own e r l)/\(∀cs,a'≠ .ptr cs))
theorem fQ.ajv{s:fQ}{x:Arg}{d:s.den}(h:s.read x=some d):AW x (s.val d):=by
 refine .inr (.inr ⟨λX v hv=>?_,?_⟩)
 .have hx:mM X x v:=by
   cases x with
   |sv _|kp _|fn _ _=>exact hv
   |own _ _ _|ptr _=>cases s<;>simp[fQ.read]at h
  grind [mM.av,fQ.weak]
 .cases x<;>cases s<;>first
   |(simp[fQ.read]at h;done)
   |exact⟨λ_=>rfl,λ_=>rfl,(λ_ _ _ e=>by cases e),(λ_ e=>by cases e),(λ_ _ _ e=>by cases e),(λ_ e=>by cases e)⟩
theorem gZ.ajv{s:gZ}{x:Arg}{d:s.den}(h:s.read x=some d):AW x (s.val d):=by
 unfold gZ.read at h;split at h
 .exact fQ.ajv h
 .next e r f s l=>
  split at h
  .next hb=>
   split at h
   .next hs=>cases h;have he:=asX hb;subst he;have hsr:=ak.eq_of_beq s r hs;subst hsr;exact .inl ⟨e,s,l,rfl,rfl⟩
   .cases h
  .cases h
 .next l cs=>exact .inr (.inl ⟨cs,_,rfl,rfl,λX vs hc=>CP _ _ _ _ h hc⟩)
 .cases h
theorem IB:∀{l:List gZ}{xs:List Arg}{d:mr l},kz l xs=some d->(tY l d).length=xs.length/\∀(i:Nat)(a:Arg),xs[i]? =some a->∃a',(tY l d)[i]? =some a'/\AW a a'
 |[],[],_,_=>⟨rfl,λi a h=>by simp at h⟩
 |s::r,x::xs,d,h=>by
  rw[kz]at h;split at h
  .next a b h1 h2=>
   cases h;obtain⟨g1,g2⟩:=IB h2;refine⟨by simp[tY,g1],λi c hc=>?_⟩;cases i with
   |zero=>simp at hc;subst hc;exact⟨_,rfl,gZ.ajv h1⟩
   |succ i=>obtain⟨c',k1,k2⟩:=g2 i c (by simpa using hc);exact⟨c',by simpa[tY]using k1,k2⟩
  .cases h
 |[],_::_,_,h=>by simp[kz]at h
 |_::_,[],_,h=>by simp[kz]at h
theorem aeN{args:List Arg}{o:Nat}(h:∀b,args[o / 64]? =some b->(∀e r l,b≠ .own e r l)/\∀cs,b≠ .ptr cs):eX args o=none:=by
 unfold eX;split
 · grind
 · grind
 .rfl
theorem Qq{sh:List gZ}{args:List Arg}{x:mr sh}(h:kz sh args=some x)(n:Nat):Covers (CS n (tY sh x)) (CS n args):=by
 obtain⟨hl,hget⟩:=IB h;refine⟨rfl,λt X v hv=>?_,λo=>?_⟩
 .simp only[CS]at hv ⊢;cases ha:args[t]? with
  |none=>
   grind
  |some b=>
   obtain⟨b',hb',hw⟩:=hget t b ha;rw[ha]at hv;rw[hb'];rcases hw with⟨e,r,l,rfl,rfl⟩|⟨cs,cs',rfl,rfl,_⟩|⟨hw,e1,e2,_⟩
   .exact hv
   .exact hv
   grind
 .show(eX (tY sh x) o=none/\eX args o=none)\/∃y y',eX args o=some y/\eX (tY sh x) o=some y'/\F8 y y';cases ha:args[o / 64]? with
  |none=>
   grind [aeN]
  |some b=>
   obtain⟨b',hb',hw⟩:=hget _ b ha;rcases hw with⟨e,r,l,rfl,rfl⟩|⟨cs,cs',rfl,rfl,hc⟩|⟨_,_,_,n1,n2,n3,n4⟩
   .unfold eX;rw[ha,hb'];cases hm:Nat.beq (o%64) 49 with
    |true=>exact .inr ⟨_,_,rfl,rfl,.inr ⟨e,r,l,false,false,rfl,rfl,id⟩⟩
    |false=>grind
   .unfold eX;rw[ha,hb'];cases hm:Nat.beq (o%64) 48 with
    |true=>exact .inr ⟨_,_,rfl,rfl,.inl ⟨cs,cs',rfl,rfl,hc⟩⟩
    |false=>grind
   grind [aeN]
theorem Xc(a b:List (Nat×aB))(p:Nat):look (a++b) p=match look b p with|some y=>some y|none=>look a p:=by
 induction a with
 |nil=>grind [look]
 |cons x a ih=>
  grind [look]
theorem vX:∀(cs:List dX)(k p:Nat)(x:aB),look (jJ k cs).2 p=some x↔∃i e r l fr,p=k+i/\cs[i]? =some (.own e r l fr)/\x=.arr e r l fr
 |[],k,p,x=>by simp[jJ,look]
 |c::cs,k,p,x=>by
  rw[jJ,Xc];have ih:=vX cs (k+1) p x;constructor
  .intro h;split at h
   .next y hy=>cases h;obtain⟨i,e,r,l,fr,h1,h2,h3⟩:=(vX cs (k+1) p x).1 hy;exact⟨i+1,e,r,l,fr,by omega,by simpa using h2,h3⟩
   .next hn=>
    cases c with
    |plain c=>simp[dX.take,look]at h
    |own e r l fr=>
     simp only[dX.take,look]at h;split at h
     .next hb=>cases h;exact⟨0,e,r,l,fr,by simp_all,rfl,rfl⟩
     .cases h
  .rintro⟨i,e,r,l,fr,h1,h2,rfl⟩;cases i with
   |succ i=>
    grind
   |zero=>
    have hn:look (jJ (k+1) cs).2 p=none:=by
     cases hl:look (jJ (k+1) cs).2 p with
     |none=>rfl
     |some y=>obtain⟨i,_,_,_,_,g1,_⟩:=(vX cs (k+1) p y).1 hl;omega
    simp_all [dX.take,look]
def IC(rs:List (Bool×List dX)):List dX:=rs.flatMap (·.2)
theorem aic(k:Nat)(x:Bool×List dX):(rX k x).2=(jJ k x.2).2:=by
 unfold rX;split
 · grind
 · grind
 grind
theorem yh:∀(rs:List (Bool×List dX))(k p:Nat)(x:aB),look (gQ k rs).2 p=some x↔∃i e r l fr,p=k+i/\(IC rs)[i]? =some (.own e r l fr)/\x=.arr e r l fr
 |[],k,p,x=>by simp[gQ,look,IC]
 |y::rs,k,p,x=>by
  rw[gQ,Xc,aic];have apk:IC (y::rs)=y.2++IC rs:=rfl;constructor
  .intro h;split at h
   .next z hz=>
    cases h;obtain⟨i,e,r,l,fr,h1,h2,h3⟩:=(yh rs (k+y.2.length) p x).1 hz;refine⟨y.2.length+i,e,r,l,fr,by omega,?_,h3⟩
    grind
   .obtain⟨i,e,r,l,fr,h1,h2,h3⟩:=(vX y.2 k p x).1 h;refine⟨i,e,r,l,fr,h1,?_,h3⟩
    grind
  .rintro⟨i,e,r,l,fr,h1,h2,rfl⟩;rw[apk]at h2;rcases atm i y.2.length with hlt|hge
   .rw[auh hlt]at h2;have hn:look (gQ (k+y.2.length) rs).2 p=none:=by
     cases hl:look (gQ (k+y.2.length) rs).2 p with
     |none=>rfl
     |some z=>obtain⟨j,_,_,_,_,g1,_⟩:=(yh rs (k+y.2.length) p z).1 hl;omega
    rw[hn];exact(vX y.2 k p _).2 ⟨i,e,r,l,fr,h1,h2,rfl⟩
   .rw[auy hge]at h2;have:=(yh rs (k+y.2.length) p (.arr e r l fr)).2 ⟨i-y.2.length,e,r,l,fr,by omega,h2,rfl⟩;rw[this]
end Go.Fw
namespace Go.Fw
open Go
set_option linter.unusedVariables false
variable {P:Program} {w0:World} {M:Nat->Prop} {T:Ext} {γ γ':Nat->Value} {st:St} {a:Act} {w w':World} {Θ:gY} {Γ:je}
def RF(Y:V)(c:dX)(v:Value)(n:Option Nat):Prop:=
 match c with
 |.plain x=>aK Y x v/\x.refs=[]
 |.own e r l fr=>0<r.len/\((∃o g,n=some o/\Y.ah o=some (.arr e r l g)/\Jr fr g=true/\v=Y.γ o/\v.oneCell'=true)\/(l=[]/\v=.slice none 0 0))
def CU(Y:V):List dX->List Value->List (Option Nat)->Prop
 |[],[],[]=>True
 |c::cs,v::vs,n::ns=>RF Y c v n/\CU Y cs vs ns
 |_,_,_=>False
theorem CU.append{Y:V}:∀(cs:List dX)(vs:List Value)(ns:List (Option Nat))(ds:List dX)(us:List Value)(ms:List (Option Nat)),CU Y cs vs ns->CU Y ds us ms->CU Y (cs++ds) (vs++us) (ns++ms)
 |[],[],[],_,_,_,_,h=>h
 |_::cs,_::vs,_::ns,ds,us,ms,⟨h1,h2⟩,h=>⟨h1,CU.append cs vs ns ds us ms h2 h⟩
theorem CU.length{Y:V}:∀(cs:List dX)(vs:List Value)(ns:List (Option Nat)),CU Y cs vs ns->cs.length=vs.length
 |[],[],[],_=>rfl
 |_::cs,_::vs,_::ns,⟨_,h2⟩=>by simp[CU.length cs vs ns h2]
theorem CU.get{Y:V}:∀(cs:List dX)(vs:List Value)(ns:List (Option Nat))(i:Nat)(c:dX),CU Y cs vs ns->cs[i]? =some c->∃v n,vs[i]? =some v/\ns[i]? =some n/\RF Y c v n
 |[],[],[],i,c,_,h=>by simp at h
 |x::cs,v::vs,n::ns,0,c,⟨h1,_⟩,h=>by grind
 |x::cs,v::vs,n::ns,i+1,c,⟨_,h2⟩,h=>by obtain⟨u,m,g1,g2,g3⟩:=CU.get cs vs ns i c h2 (by simpa using h);exact⟨u,m,by simpa using g1,by simpa using g2,g3⟩
theorem eY.aeO(c:eY)(x:Cell)(d:c.den)(h:c.read x=some d)(hx:x.refs=[]):(c.cell d).refs=[]:=by cases c<;>cases x<;>first|rfl|(simp[eY.read]at h;done)|(cases hx)
theorem RC.aiH{Y:V}(hst:Y.ah=st.ah)(hpos:∀o e r l g,st.ah o=some (.arr e r l g)->0<r.len):∀(c:RC)(x:Cell)(d:c.den)(v:Value),c.read st x=some d->aK Y x v->RF Y (c.aju d) v (c.name x):=by
 intro c x d v hr hv;cases c with
 |c s=>
  rw[RC.read]at hr;split at hr
  .next hx=>exact⟨eY.weak s x d v hr hv,eY.aeO s x d hr hx⟩
  .cases hr
 |own e r fr=>
  cases x with
  |ref o=>
   simp only[RC.read]at hr;split at hr
   .next f s l g ho=>
    split at hr
    .next hb=>
     split at hr
     .next hs=>cases hr;rw[as1]at hb;have he:=asX hb.1;subst he;have hsr:=ak.eq_of_beq s r hs;subst hsr;exact⟨hpos _ _ _ _ _ ho,.inl ⟨o,g,rfl,by rw[hst];exact ho,hb.2,hv.2.1,hv.2.2⟩⟩
     .cases hr
    .cases hr
   .cases hr
  |nil=>
   simp only[RC.read]at hr;split at hr
   .next hb=>cases hr;exact⟨ati Nat.zero_lt_one (by simp_all),.inr ⟨rfl,hv⟩⟩
   .cases hr
  |_=>simp[RC.read]at hr
theorem aal{Y:V}(hst:Y.ah=st.ah)(hpos:∀o e r l g,st.ah o=some (.arr e r l g)->0<r.len):∀(l:List RC)(xs:List Cell)(d:aai l)(vs:List Value),Nu st l xs=some d->ai Y xs vs->CU Y (ac5 l d) vs (ac6 l xs)
 |[],[],_,[],_,_=>trivial
 |c::r,x::xs,d,v::vs,h,⟨h1,h2⟩=>by
  rw[Nu]at h;split at h
  .next a b g1 g2=>cases h;exact⟨RC.aiH hst hpos c x a v g1 h1,aal hst hpos r xs b vs g2 h2⟩
  .cases h
 |[],_::_,_,_,h,_=>by simp[Nu]at h
 |_::_,[],_,_,h,_=>by simp[Nu]at h
theorem lJ.agR{Y:V}(hst:Y.ah=st.ah)(hpos:∀o e r l g,st.ah o=some (.arr e r l g)->0<r.len):∀(s:lJ)(x:SV)(d:s.den)(v:Value),s.read st x=some d->dw Y x v->CU Y (s.out d).2 v.cells.toList (s.names x)
 |.one c,.one x,d,v,h,hv=>by
  rw[EI v (aK.one x v hv)];exact⟨RC.aiH hst hpos c x d v h hv,trivial⟩
 |.agg l,.agg xs,d,v,h,⟨vs,hv,hc⟩=>by
  rw[hv];exact aal hst hpos l xs d _ h hc
 |.one _,.agg _,_,_,h,_|.agg _,.one _,_,_,h,_=>by simp[lJ.read]at h
theorem aam{Y:V}(hst:Y.ah=st.ah)(hpos:∀o e r l g,st.ah o=some (.arr e r l g)->0<r.len):∀(l:List lJ)(xs:List SV)(d:yS l)(vs:List Value),Ac st l xs=some d->dB Y xs vs->
 CU Y (IC (iq l d)) (vs.flatMap λv=>v.cells.toList) (yH l xs)
 |[],[],_,[],_,_=>trivial
 |s::r,x::xs,d,v::vs,h,⟨h1,h2⟩=>by
  rw[Ac]at h;split at h
  .next a b g1 g2=>cases h;exact CU.append _ _ _ _ _ _ (lJ.agR hst hpos s x a v g1 h1) (aam hst hpos r xs b vs g2 h2)
  .cases h
 |[],_::_,_,_,h,_=>by simp[Ac]at h
 |_::_,[],_,_,h,_=>by simp[Ac]at h
def Go1(Z:V)(k:Nat)(c:dX)(v:Value):Prop:=aK Z (c.take k).1 v
def FT(Z:V):Nat->List dX->List Value->Prop
 |_,[],[]=>True
 |k,c::cs,v::vs=>Go1 Z k c v/\FT Z (k+1) cs vs
 |_,_,_=>False
theorem FT.of{Z:V}:∀(cs:List dX)(vs:List Value)(k:Nat),cs.length=vs.length->(∀i c v,cs[i]? =some c->vs[i]? =some v->Go1 Z (k+i) c v)->FT Z k cs vs
 |[],[],_,_,_=>trivial
 |c::cs,v::vs,k,hl,h=>⟨h 0 c v rfl rfl,FT.of cs vs (k+1) (by simpa using hl) λi c' v' h1 h2=>by
   have:=h (i+1) c' v' (by simpa using h1) (by simpa using h2)
   grind⟩
theorem FT.split{Z:V}:∀(cs:List dX)(vs:List Value)(ds:List dX)(us:List Value)(k:Nat),cs.length=vs.length->FT Z k (cs++ds) (vs++us)->FT Z k cs vs/\FT Z (k+cs.length) ds us
 |[],[],_,_,_,_,h=>⟨trivial,h⟩
 |c::cs,v::vs,ds,us,k,hl,⟨h1,h2⟩=>by obtain⟨g1,g2⟩:=FT.split cs vs ds us (k+1) (by simpa using hl) h2;exact⟨⟨h1,g1⟩,by grind⟩
theorem FT.cells{Z:V}:∀(cs:List dX)(vs:List Value)(k:Nat),FT Z k cs vs->ai Z (jJ k cs).1 vs
 |[],[],_,_=>trivial
 |c::cs,v::vs,k,⟨h1,h2⟩=>⟨h1,FT.cells cs vs (k+1) h2⟩
theorem lJ.go{Y Z:V}:∀(s:lJ)(x:SV)(d:s.den)(v:Value)(k:Nat),s.read st x=some d->dw Y x v->FT Z k (s.out d).2 v.cells.toList->dw Z (rX k (s.out d)).1 v
 |.one c,.one x,d,v,k,h,hv,hg=>by
  rw[EI v (aK.one x v hv)]at hg;exact hg.1
 |.agg l,.agg xs,d,v,k,h,⟨vs,hv,hc⟩,hg=>by
  rw[hv]at hg ⊢;exact⟨vs,rfl,FT.cells _ _ _ hg⟩
 |.one _,.agg _,_,_,_,h,_,_|.agg _,.one _,_,_,_,h,_,_=>by simp[lJ.read]at h
theorem aeP{Y Z:V}(hst:Y.ah=st.ah)(hpos:∀o e r l g,st.ah o=some (.arr e r l g)->0<r.len):∀(l:List lJ)(xs:List SV)(d:yS l)(vs:List Value)(k:Nat),Ac st l xs=some d->dB Y xs vs->
 FT Z k (IC (iq l d)) (vs.flatMap λv=>v.cells.toList)->dB Z (gQ k (iq l d)).1 vs
 |[],[],_,[],_,_,_,_=>trivial
 |s::r,x::xs,d,v::vs,k,h,⟨h1,h2⟩,hg=>by
  rw[Ac]at h;split at h
  .next a b g1 g2=>cases h;have hl:=CU.length _ _ _ (lJ.agR hst hpos s x a v g1 h1);obtain⟨k1,k2⟩:=FT.split _ _ _ _ k hl hg;exact⟨lJ.go s x a v k g1 h1 k1,aeP hst hpos r xs b vs _ g2 h2 k2⟩
  .cases h
 |[],_::_,_,_,_,h,_,_=>by simp[Ac]at h
 |_::_,[],_,_,_,h,_,_=>by simp[Ac]at h
theorem Xd:∀(l:List eY)(xs:List Cell)(d:jY l),iZ l xs=some d->xs.flatMap Cell.refs=[]->(gu l d).flatMap Cell.refs=[]
 |[],[],_,_,_=>rfl
 |c::r,x::xs,d,h,hx=>by
  rw[iZ]at h;split at h
  .next a b g1 g2=>cases h;rw[atG,aty]at hx;show(c.cell a::gu r b).flatMap Cell.refs=[];rw[atG,eY.aeO c x a g1 hx.1,Xd r xs b g2 hx.2,atM]
  .cases h
 |[],_::_,_,h,_=>by simp[iZ]at h
 |_::_,[],_,h,_=>by simp[iZ]at h
theorem IE:∀(sh:List gZ)(i:Nat)(b:wP sh),Hf st i sh=some b->∀(j:Nat)(e:Eff),(jy sh b)[j]? =some e->
 e=.lose\/∃l cs cs0,sh[j]? =some (.ptr l)/\e=.var cs/\st.ah ((i+j)*64+48)=some (.var cs0)/\cs0.flatMap Cell.refs=[]/\cs.flatMap Cell.refs=[]/\∀(X:V) vs,ai X cs0 vs->ai X cs vs
 |[],_,_,_,j,e,he=>by grind [jy]
 |.ptr l::r,i,b,h,j,e,he=>by
  rw[Hf]at h;split at h
  .next cs b' hx hb=>
   split at h
   .next a hr ha=>
    cases h;cases j with
    |zero=>
     simp[jy]at he;subst he;exact .inr ⟨l,_,cs,rfl,rfl,by simpa using hx,hr,Xd _ _ _ ha hr,λX vs hc=>CP _ _ _ _ ha hc⟩
    |succ j=>
     rcases IE r (i+1) b' hb j e (by simpa[jy]using he)with h|⟨l,cs',cs0,h1,h2,h3,h4⟩
     .exact .inl h
     .exact .inr ⟨l,cs',cs0,by simpa using h1,h2,by rw[show i+(j+1)=i+1+j by omega];exact h3,h4⟩
   .cases h
  .cases h
 |.p _::r,i,b,h,j,e,he|.own _ _::r,i,b,h,j,e,he=>by
  rw[Hf]at h;cases j with
  |zero=>simp[jy]at he;exact .inl he.symm
  |succ j=>
   rcases IE r (i+1) b h j e (by simpa[jy]using he)with h|⟨l,cs',cs0,h1,h2,h3,h4⟩
   .exact .inl h
   .exact .inr ⟨l,cs',cs0,by simpa using h1,h2,by rw[show i+(j+1)=i+1+j by omega];exact h3,h4⟩
theorem aan:∀{sh:List gZ}{xs:List Arg}{d:mr sh},kz sh xs=some d->∀(j:Nat)(l:List eY),sh[j]? =some (.ptr l)->∃cs,xs[j]? =some (.ptr cs)
 |[],[],_,_,j,l,h=>by simp at h
 |s::r,x::xs,d,h,j,l,hj=>by
  rw[kz]at h;split at h
  .next a b h1 h2=>
   cases j with
   |zero=>
    simp at hj;subst hj;cases x with
    |ptr cs=>grind
    |_=>simp[gZ.read]at h1
   |succ j=>obtain⟨cs,hc⟩:=aan h2 j l (by simpa using hj);exact⟨cs,by simpa using hc⟩
  .cases h
 |[],_::_,_,h,_,_,_=>by grind
 |_::_,[],_,h,_,_,_=>by simp[kz]at h
theorem akR{sh:List gZ}{b:wP sh}(hb:Hf st 0 sh=some b){q:Nat}{y:aB}(h:nX (jy sh b) q=some y):
 q%64=48/\∃l cs cs0,sh[q / 64]? =some (.ptr l)/\y=.var cs/\st.ah q=some (.var cs0)/\cs0.flatMap Cell.refs=[]/\cs.flatMap Cell.refs=[]/\∀(X:V) vs,ai X cs0 vs->ai X cs vs:=by
 unfold nX at h;split at h
 · grind [IE]
 · grind [Nat.eq_of_beq_eq_true,IE]
 .cases h
def gZ.qj:(s:gZ)->s.den->Prop
 |.p s,x=>s.qj x
 |.own _ r,(l:List r.den)=>∀x∈l,r.qj x
 |.ptr l,x=>Vu l x
def KQ:(l:List gZ)->mr l->Prop
 |[],_=>True
 |s::r,x=>s.qj x.1/\KQ r x.2
theorem fQ.Vw{X:V}(s:fQ)(x:Arg)(d:s.den)(v:Value)(h:s.read x=some d)(hr:mM X x v):s.qj d:=
 (Aa (X:=X) [s] (d,()) [v] ⟨fQ.weak s x d v h hr,trivial⟩).1
theorem Ti{X:V}{args:List Arg}(ho:∀o x,eX args o=some x->bD X o x):∀(sh:List gZ)(xs:List Arg)(d:mr sh)(vs:List Value)(i:Nat),(∀j a,xs[j]? =some a->args[i+j]? =some a)->
 kz sh xs=some d->xC X i xs vs->KQ sh d
 |[],[],_,_,_,_,_,_=>trivial
 |s::r,x::xs,d,v::vs,i,hj,h,⟨hv,hvs⟩=>by
  rw[kz]at h;split at h
  .next a b h1 h2=>
   cases h;refine⟨?_,Ti ho r xs b vs (i+1) (λj c hc=>by have:=hj (j+1) c (by simpa using hc);grind) h2 hvs⟩;have hx:args[i]? =some x:=hj 0 x rfl;cases s with
   |p s=>
    have h1':s.read x=some a:=by grind [gZ.read]
    refine fQ.Vw (X:=X) s x a v h1' ?_;cases x with
    |own _ _ _|ptr _=>cases s<;>simp[fQ.read]at h1'
    |_=>exact hv
   |own e r'=>
    cases x with
    |own f s' l=>
     have h1':(match Nat.beq e f with|true=>if h:s'.beq r'=true then some (qR h l)else none|false=>none)=some a:=h1;split at h1'
     .split at h1'
      .next hb hs=>
       cases h1';have hsr:=ak.eq_of_beq s' r' hs;subst hsr;have xG:eX args (i*64+49)=some (.arr f s' l false):=by
        unfold eX;rw[show(i*64+49) / 64=i by omega,hx]
        simp_all
       obtain⟨us,_,_,_,hrow⟩:=ho _ _ xG;intro y hy;have hy':y∈l:=hy;obtain⟨j,hj1,hj2⟩:=auW.1 hy';exact aZ.qj s' _ _ (hrow j y (by grind))
      .cases h1'
     .cases h1'
    |_=>simp[gZ.read]at h1
   |ptr l=>
    cases x with
    |ptr cs=>
     have h1':iZ l cs=some a:=h1;have xG:eX args (i*64+48)=some (.var cs):=by
      unfold eX;rw[show(i*64+48) / 64=i by omega,hx]
      simp_all
     obtain⟨_,arr,_,_,_,hc⟩:=ho _ _ xG;exact He l a _ (CP _ _ _ _ h1' hc)
    |_=>simp[gZ.read]at h1
  .cases h
 |[],_::_,_,_,_,_,h,_=>by simp[kz]at h
 |_::_,[],_,_,_,_,h,_=>by simp[kz]at h
theorem H7:∀(l:List gZ)(d:mr l),(tY l d).length=l.length
 |[],_=>rfl
 |_::r,d=>by simp[tY,H7 r d.2]
theorem Out.alW(rs:List (Bool×List dX))(k:Nat):((⟨rs,none⟩:Out).take k).2=(gQ k rs).2:=by
 grind [Out.take]
theorem Out.alX(rs:List (Bool×List dX))(k:Nat):((⟨rs,none⟩:Out).take k).1=(match (gQ k rs).1 with|[v]=>AV.sv v|vs=>.kZ vs):=by
 grind [Out.take]
theorem aqK{args:List Arg}{S:Nat->Prop}{sh:List gZ}{dh:List lJ}{x:mr sh}(hx:kz sh args=some x){d:yS dh}{b:wP sh}{k:Nat}{vs:List SV}{us:List Value}
 (hR:Rel w (xE (eX args) γ) (Tf args γ S) γ' st a w') (hrs:dB (aj w (Tf args γ S) γ' st w') vs us) (hnd:vU (yH dh vs)=true) (hrd:Ac st dh vs=some d) (hbk:Hf st 0 sh=some b)
 (hap:∀o x,look ((⟨iq dh d,none⟩:Out).take k).2 o=some x->nX (jy sh b) o=none):
 ∃γ2,aQ ⟨w',w.heap.size,qi S args (jy sh b) γ,γ2,look ((⟨iq dh d,none⟩:Out).take k).2⟩ ((⟨iq dh d,none⟩:Out).take k).1 (if h:us.toArray.size=1 then us.toArray[0]else .tuple us.toArray)/\
  (∀o x,look ((⟨iq dh d,none⟩:Out).take k).2 o=some x->bD ⟨w',w.heap.size,qi S args (jy sh b) γ,γ2,look ((⟨iq dh d,none⟩:Out).take k).2⟩ o x/\
    ∀b',blk (γ2 o)=some b'->b'<w'.heap.size/\(w.heap.size<=b'\/xE (eX args) γ b')/\∀q y,nX (jy sh b) q=some y->blk (γ q)≠some b')/\
  (∀o x q y b',look ((⟨iq dh d,none⟩:Out).take k).2 o=some x->look ((⟨iq dh d,none⟩:Out).take k).2 q=some y->o≠q->blk (γ2 o)=some b'->blk (γ2 q)≠some b')/\
  (∀o x,nX (jy sh b) o=some x->γ2 o=γ o/\bD ⟨w',w.heap.size,qi S args (jy sh b) γ,γ2,look ((⟨iq dh d,none⟩:Out).take k).2⟩ o x):=by
 rw[Out.alW]at hap ⊢;rw[Out.alX]
 skip
 let Y:V:=aj w (Tf args γ S) γ' st w'
 let fv:List Value:=us.flatMap λv=>v.cells.toList
 let aJ:=jy sh b
 let γ2:Nat->Value:=λp=>match nX aJ p with|some _=>γ p|none=>fv.getD (p-k) undef
 let Z:V:=⟨w',w.heap.size,qi S args aJ γ,γ2,look (gQ k (iq dh d)).2⟩
 have hpos:∀o e r l g,st.ah o=some (.arr e r l g)->0<r.len:=λo e r l g ho=>by obtain⟨_,_,h,_⟩:=hR.ah o _ ho;exact h
 have hF:CU Y (IC (iq dh d)) fv (yH dh vs):=aam (st:=st) rfl hpos dh vs d us hrd hrs;have hbq:∀q y,nX aJ q=some y->γ' q=γ q/\∃cs cs0,y=.var cs/\st.ah q=some (.var cs0)/\cs0.flatMap Cell.refs=[]/\cs.flatMap Cell.refs=[]/\∀(X:V) vs,ai X cs0 vs->ai X cs vs:=by
  intro q y hq;obtain⟨hm,l,cs,cs0,h1,h2,h3,h4,h5,h6⟩:=akR hbk hq;refine⟨?_,cs,cs0,h2,h3,h4,h5,h6⟩;obtain⟨ci,hci⟩:=aan hx _ l h1;have ho:eX args q=some (.var ci):=by
   simp_all [eX]
  have hN:(Tf args γ S).N q=some (γ q):=by
   show ac7 args γ q=_
   grind [ac7]
  exact hR.pin q _ _ hN h3
 have hG:∀p X,look (gQ k (iq dh d)).2 p=some X->∃i e r l fr,p=k+i/\(IC (iq dh d))[i]? =some (.own e r l fr)/\X=.arr e r l fr/\0<r.len/\
  ((∃o g,(yH dh vs)[i]? =some (some o)/\st.ah o=some (.arr e r l g)/\Jr fr g=true/\γ2 p=γ' o/\(γ2 p).oneCell'=true)\/(l=[]/\γ2 p=.slice none 0 0)):=by
  intro p X hp;obtain⟨i,e,r,l,fr,h1,h2,h3⟩:=(yh _ k p X).1 hp;obtain⟨v,n,g1,g2,hr,hv⟩:=CU.get _ _ _ i _ hF h2
  grind
 have Vs:∀b',Y.foot b'->Z.foot b':=by
  intro b' hb';refine⟨hb'.1,λhlt=>⟨hb'.2.1 hlt,λq y hq=>?_⟩,λp X hp=>?_⟩
  .obtain⟨hγ,cs,cs0,_,h3,_⟩:=hbq q y hq;rw[← hγ];exact hb'.2.2 q _ h3
  .obtain⟨i,e,r,l,fr,_,_,_,_,hc⟩:=hG p X hp;show blk (γ2 p)≠some b';rcases hc with⟨o,g,_,ho,_,hγ,_⟩|⟨_,hγ⟩
   .rw[hγ];exact hb'.2.2 o _ ho
   .rw[hγ];intro h;cases h
 have akS:∀fr b',Y.bP fr b'->Z.bP fr b':=λfr b' h=>⟨Vs b' h.1,h.2⟩;have hgo:FT Z k (IC (iq dh d)) fv:=by
  refine FT.of _ _ _ (CU.length _ _ _ hF) λi c v hc hv=>?_;obtain⟨v',n,g1,g2,g3⟩:=CU.get _ _ _ i c hF hc;rw[hv]at g1;cases g1;cases c with
  |plain x=>
   exact(D7 (Y:=Y) (Z:=Z) rfl akS [x] [v] (by simpa using g3.2) ⟨g3.1,trivial⟩).1
  |own e r l fr=>
   have hp:look (gQ k (iq dh d)).2 (k+i)=some (.arr e r l fr):=(yh _ k _ _).2 ⟨i,e,r,l,fr,rfl,hc,rfl⟩;have hγ:γ2 (k+i)=v:=by
    grind
   refine⟨⟨e,r,l,fr,hp⟩,hγ.symm,?_⟩;rcases g3.2 with⟨_,_,_,_,_,_,h⟩|⟨_,h⟩
   .exact h
   .rw[h];rfl
 have hsv:dB Z (gQ k (iq dh d)).1 us:=aeP (st:=st) (Y:=Y) rfl hpos dh vs d us k hrd hrs hgo;refine⟨γ2,?_,λp X hp=>?_,λp X q X' b' hp hq hne hb1 hb2=>?_,λq y hq=>?_⟩
 .have hl:=dB.length _ _ hsv
  match hm:(gQ k (iq dh d)).1,us,hsv,hl with
  |[v],[u],hk,_=>exact hk.1
  |[],[],hk,_=>exact⟨_,by simp,hk⟩
  |v::v2::r,u::u2::us,hk,hl=>exact⟨_,by simp,hk⟩
  |[],_::_,hk,h4|_::_,[],hk,h4|[_],_::_::_,hk,h4|_::_::_,[_],hk,h4=>simp at h4
 .obtain⟨i,e,r,l,fr,_,_,rfl,hr,hc⟩:=hG p X hp;rcases hc with⟨o,g,_,ho,hb,hγ,_⟩|⟨rfl,hγ⟩
  .have hO:bD Y o (.arr e r l g):=hR.ah o _ ho;have hold:∀b',blk (γ' o)=some b'->fr=true->w.heap.size<=b':=by
    intro b' hb' hfr;subst hfr;have hg:g=true:=hb;subst hg;obtain⟨_,_,_,hn,_⟩:=hO
    grind
   refine⟨bD.ac2 (Y:=Y) (Z:=Z) hO hγ rfl (λb' hb'=>⟨Vs b' hb'.1,λhfr=>hb'.2 ?_⟩) hold,λb' hb'=>?_⟩
   .subst hfr;exact hb
   .rw[hγ]at hb';obtain⟨h1,h2⟩:=hR.lt o _ b' ho hb';refine⟨h1,h2,λq y hq=>?_⟩;obtain⟨hγq,cs,cs0,_,h3,_⟩:=hbq q y hq;rw[← hγq];refine hR.sep o _ q _ b' ho h3 ?_ hb'
    grind
  .refine⟨⟨[],⟨by simp,.inl ⟨hγ,rfl⟩⟩,hr,(λb' hb'=>by grind [blk]),λi x hi=>by simp at hi⟩,λb' hb'=>by rw[hγ]at hb';cases hb'⟩
 .obtain⟨i,e,r,l,fr,hi,_,_,_,hc⟩:=hG p X hp;obtain⟨j,e',r',l',fr',hj,_,_,_,hc'⟩:=hG q X' hq;rcases hc with⟨o,g,hn,ho,_,hγ,_⟩|⟨_,hγ⟩
  .rcases hc' with⟨o',g',hn',ho',_,hγ',_⟩|⟨_,hγ'⟩
   .rw[hγ]at hb1;rw[hγ']at hb2;have:o≠o':=by
     grind [Md]
    exact hR.sep o _ o' _ b' ho ho' this hb1 hb2
   .rw[hγ']at hb2;cases hb2
  .rw[hγ]at hb1;cases hb1
 .obtain⟨hγ,cs,cs0,rfl,h3,h4,h5,h6⟩:=hbq q y hq;have zY:γ2 q=γ q:=by
   grind
  refine⟨zY,?_⟩;obtain⟨b',arr,t,k1,k2,k3⟩:=hR.ah q _ h3;refine⟨b',arr,t,?_,k2,D7 (Y:=Y) (Z:=Z) rfl akS _ _ h5 (h6 _ _ k3)⟩
  grind
theorem anG{G:iV}(hE:EnvB P G Θ Γ)(hm:P.follows .mixedOrders=true){f:FuncId}{fn:Func}{c:Code}(hf:P.funcs[f]? =some fn)(hb:fn.body=some c)(H:Hints)
 {sh:List gZ} {dh:List lJ} {F:mr sh->Prop×(yS dh×wP sh->Prop)} (hn:Nat.ble sh.length fn.ntmps=true) (hne:∀x,(F x).1->∃t,(F x).2 t)
 (hwalk:∀x,KQ sh x->(F x).1->ER Θ Γ H c (afX Θ fn.results.toList sh dh (F x).2) (CS fn.ntmps (tY sh x))):CO P G f (agf sh dh F):=by
 intro args p ρ hcon hp;unfold agf at hcon;split at hcon
 case h_2=>cases hcon
 next x hx=>
 cases hcon;refine⟨hne x hp,λk S γ vs w hG hrep xG hsep hap=>?_⟩;have hlen:=(IB hx).1;rw[H7]at hlen;have hn':args.length<=fn.ntmps:=by simp_all
 have hin:KQ sh x:=Ti (λo X ho=>(xG o X ho).1) sh args x vs.toList 0 (λj a h=>by grind) hx hrep;have hR0:=aak (S:=S) fn.ntmps hn' hrep (λo X ho=>⟨(xG o X ho).1,λb hb=>((xG o X ho).2 b hb).1⟩) hsep;have hR1:=hR0.covers (Qq hx fn.ntmps);refine calls_of_wp hf hb (Tc ⟨hE,hG,λb hb=>?_⟩ hm H c _ _ _ _ _ _ hR1 (hwalk x hin hp) ?_)
 .obtain⟨o,X,ho,hb⟩:=hb
  grind
 intro e s γ' a' w' he hR;have hret:∃(us:List Value)(t:yS dh×wP sh),(fn.results.mapM (G9 a'.tmps)).run P w'=.ok us.toArray w'/\(F x).2 t/\∃γ2,
  aQ ⟨w',w.heap.size,qi S args (jy sh t.2) γ,γ2,look ((⟨iq dh t.1,none⟩:Out).take k).2⟩ ((⟨iq dh t.1,none⟩:Out).take k).1 (if h:us.toArray.size=1 then us.toArray[0]else .tuple us.toArray)/\
  (∀o x',look ((⟨iq dh t.1,none⟩:Out).take k).2 o=some x'->bD ⟨w',w.heap.size,qi S args (jy sh t.2) γ,γ2,look ((⟨iq dh t.1,none⟩:Out).take k).2⟩ o x'/\
    ∀b,blk (γ2 o)=some b->b<w'.heap.size/\(w.heap.size<=b\/xE (eX args) γ b)/\∀q y,nX (jy sh t.2) q=some y->blk (γ q)≠some b)/\
  (∀o x' q y b,look ((⟨iq dh t.1,none⟩:Out).take k).2 o=some x'->look ((⟨iq dh t.1,none⟩:Out).take k).2 q=some y->o≠q->blk (γ2 o)=some b->blk (γ2 q)≠some b)/\
  (∀o x',nX (jy sh t.2) o=some x'->γ2 o=γ o/\bD ⟨w',w.heap.size,qi S args (jy sh t.2) γ,γ2,look ((⟨iq dh t.1,none⟩:Out).take k).2⟩ o x'):=by
  have he':(e=.normal\/e=.ret)/\afX Θ fn.results.toList sh dh (F x).2 .ret s:=by
   cases e with
   |normal=>exact⟨.inl rfl,he⟩
   |ret=>grind
   |_=>exact he.elim
  have he2:=he'.2;simp only[afX]at he2;split at he2
  .next svs asF=>
   split at he2
   .next vs' hvs'=>
    split at he2
    .next d b hnd hd hb'=>
     have hRf:=hR.freeze (aaj s (yH dh svs));obtain⟨us,hus,hrs⟩:=Jt hE.types hRf _ _ hvs';refine⟨us,(d,b),?_,he2,aqK hx hRf hrs hnd hd hb' (hap (d,b) he2)⟩
     simp_all [au8]
    grind
   grind
  grind
 obtain⟨us,t,hus,ht,γ2,h1,h2,h3,h4⟩:=hret;have hfin:bodyPost P fn (λe w'=>∃t,(F x).2 t/\KF S args γ w k ⟨iq dh t.1,none⟩ (jy sh t.2) e w') .ret a' w':=by
  refine⟨hR.defers,if h:us.toArray.size=1 then us.toArray[0]else .tuple us.toArray,?_,t,ht,_,γ2,rfl,hR.os,hR.tape,hR.output,hR.grow,hR.kept,h1,h2,h3,h4⟩;rw[OU,atx,hus]
  simp_all
 cases e with
 |normal=>exact hfin
 |ret=>exact hfin
 |_=>exact he.elim
def afY(rv:List ResultVar)(l:List eY)(K:jY l->Prop)(e:Exit)(st:St):Prop:=
 match e with
 |.normal|.ret=>match rv with
  |[.tmp t]=>match st.tmps t with
   |.eG o off=>match Nat.beq off 0,(st.freeze (KO st)).ah o with
    |true,some (.var cs)=>match cs.flatMap Cell.refs,iZ l cs with
     |[],some d=>K d
     |_,_=>False
    |_,_=>False
   |_=>False
  |_=>False
 |_=>False
def loses(sh:List gZ):List Eff:=sh.map λ_=>.lose
def alY(sh:List gZ)(l:List eY)(F:mr sh->Prop×(jY l->Prop)):RV:=λargs=>
 match kz sh args with
 |some x=>some ((F x).1,⟨jY l,(F x).2,λt=>⟨[],some (gu l t)⟩,λ_=>loses sh⟩)
 |none=>none
theorem OV(sh:List gZ)(q:Nat):nX (loses sh) q=none:=by
 grind [nX,loses]
theorem Nv:∀(l:List eY)(cs:List Cell)(d:jY l),iZ l cs=some d->cs.flatMap Cell.refs=[]->(gu l d).flatMap Cell.refs=[]
 |[],[],_,_,_=>rfl
 |c::l,x::xs,d,h,hn=>by
  rw[iZ]at h;rw[atG,aty]at hn;split at h
  .next p q hp hq=>
   cases h;show((c.cell p)::gu l q).flatMap Cell.refs=[];rw[atG,aty];refine⟨?_,Nv l xs q hq hn.2⟩;cases c with
   |ref o=>
    cases x<;>simp[eY.read,Cell.refs]at hp hn
   |_=>rfl
  .cases h
 |[],_::_,_,h,_=>by simp[iZ]at h
 |_::_,[],_,h,_=>by simp[iZ]at h
theorem anH{G:iV}(hE:EnvB P G Θ Γ)(hm:P.follows .mixedOrders=true){f:FuncId}{fn:Func}{c:Code}(hf:P.funcs[f]? =some fn)(hb:fn.body=some c)(H:Hints)
 {sh:List gZ} {l:List eY} {F:mr sh->Prop×(jY l->Prop)} (hn:Nat.ble sh.length fn.ntmps=true) (hne:∀x,(F x).1->∃t,(F x).2 t)
 (hwalk:∀x,KQ sh x->(F x).1->ER Θ Γ H c (afY fn.results.toList l (F x).2) (CS fn.ntmps (tY sh x))):CO P G f (alY sh l F):=by
 intro args p ρ hcon hp;unfold alY at hcon;split at hcon
 case h_2=>cases hcon
 next x hx=>
 cases hcon;refine⟨hne x hp,λk S γ vs w hG hrep xG hsep hap=>?_⟩;have hlen:=(IB hx).1;rw[H7]at hlen;have hn':args.length<=fn.ntmps:=by simp_all
 have hin:KQ sh x:=Ti (λo X ho=>(xG o X ho).1) sh args x vs.toList 0 (λj a h=>by grind) hx hrep;have hR0:=aak (S:=S) fn.ntmps hn' hrep (λo X ho=>⟨(xG o X ho).1,λb hb=>((xG o X ho).2 b hb).1⟩) hsep;have hR1:=hR0.covers (Qq hx fn.ntmps);refine calls_of_wp hf hb (Tc ⟨hE,hG,λb hb=>?_⟩ hm H c _ _ _ _ _ _ hR1 (hwalk x hin hp) ?_)
 .obtain⟨o,X,ho,hb⟩:=hb
  grind
 intro e s γ' a' w' he hR;have he':afY fn.results.toList l (F x).2 .ret s:=by
  cases e with
  |normal=>exact he
  |ret=>exact he
  |_=>exact he.elim
 have hfin:bodyPost P fn (λe w'=>∃t,(F x).2 t/\KF S args γ w k ⟨[],some (gu l t)⟩ (loses sh) e w') .ret a' w':=by
  simp only[afY]at he';split at he'
  case h_2=>exact he'.elim
  next t hrv=>
  split at he'
  case h_2=>exact he'.elim
  next o off htm=>
  split at he'
  case h_2=>exact he'.elim
  next cs hoff hcs=>
  split at he'
  case h_2=>exact he'.elim
  next d hnr hd=>
  have hoff:=asX hoff;subst hoff;have hRf:=hR.freeze (KO s);have hv:=hR.tmps t;rw[htm]at hv;obtain⟨b,cs0,_,hγ,hval⟩:=hv;obtain⟨b',arr,ty,g1,g2,g3⟩:=hRf.ah o _ hcs;have g1:γ' o=.pointer (some ⟨b',0,none⟩):=g1;have hγ:γ' o=.pointer (some ⟨b,0,none⟩):=hγ;rw[hγ]at g1;cases g1;have hblk:blk (γ' o)=some b:=by rw[hγ];rfl
  have hlt:=hRf.lt o _ b hcs hblk
  let γ2:Nat->Value:=λ_=>γ' o
  let Z:V:=⟨w',w.heap.size,qi S args (loses sh) γ,γ2,look (Out.take k ⟨[],some (gu l d)⟩).2⟩
  have hlook:∀q y,look (Out.take k ⟨[],some (gu l d)⟩).2 q=some y->q=k-1/\y=.var (gu l d):=by
   intro q y hq;have hmem:=uG _ q y hq
   grind [Out.take]
  have Vs:∀fr b',(aj w (Tf args γ S) γ' (s.freeze (KO s)) w').bP fr b'->Z.bP fr b':=by intro fr b' hb';refine⟨⟨hb'.1.1,λhlt'=>⟨hb'.1.2.1 hlt',λq y hq=>by grind [OV]⟩,λq y hq=>?_⟩,hb'.2⟩;exact hb'.1.2.2 o _ hcs
  have hcells:ai Z (gu l d) arr.toList:=
   D7 (Y:=aj w (Tf args γ S) γ' (s.freeze (KO s)) w') (Z:=Z) rfl Vs _ _ (Nv l cs d hd hnr) (CP l cs d _ hd g3)
  have hself:look (Out.take k ⟨[],some (gu l d)⟩).2 (k-1)=some (.var (gu l d)):=by simp[Out.take,look]
  refine⟨hR.defers,a'.tmps.getD t undef,?_,d,he',_,γ2,rfl,hR.os,hR.tape,hR.output,hR.grow,hR.kept,?_,λq y hq=>?_,λq y q' y' b' hq hq' hne'=>?_,λq y hq=>by grind [OV]⟩
  .have:fn.results=#[.tmp t]:=by grind
   have hmap:(Array.mapM (G9 a'.tmps) #[ResultVar.tmp t]).run P w'=.ok #[a'.tmps.getD t undef] w':=by
    simp_all [G9]
   rw[OU,this,atx,hmap];rfl
  .exact⟨b,gu l d,hself,hγ,hval⟩
  .obtain⟨rfl,rfl⟩:=hlook q y hq;refine⟨⟨b,arr,ty,hγ,g2,hcells⟩,λb' hb'=>?_⟩
   grind [OV]
  grind
 cases e with
 |normal=>exact hfin
 |ret=>exact hfin
 |_=>exact he.elim
end Go.Fw
namespace Go.Fw
open Go
def CT.isZero:CT->Value->Bool
 |.int k,.int l n=>decide (k=l)&&decide (n=0)
 |.bool,.bool b=>!b
 |.str,.string s=>s.data.toList.isEmpty
 |.sl _ _,.slice none 0 0=>true
 |_,_=>false
def ak.Nw:ak->List Value->Bool
 |.nil,[]=>true
 |.cons c r,v::vs=>c.isZero v&&r.Nw vs
 |_,_=>false
theorem CT.akT:∀(c:CT)(v:Value),c.isZero v=true->v=c.acV:=by
 intro c v h;unfold CT.isZero at h;split at h
 .simp at h;rw[h.1,h.2];rfl
 .simp at h;subst h;rfl
 .next s=>obtain⟨⟨l⟩⟩:=s;simp at h;subst h;rfl
 .rfl
 .cases h
theorem ak.aao:∀(r:ak)(vs:List Value),r.Nw vs=true->vs=r.mJ
 |.nil,[],_=>rfl
 |.cons c r,v::vs,h=>by
  rw[Nw,as1]at h;rw[ak.mJ,CT.akT c v h.1,ak.aao r vs h.2]
 |.nil,_::_,h|.cons _ _,[],h=>by simp[Nw]at h
def agS:TypeDesc->TypeDesc->Bool
 |.int k,.int l=>decide (k=l)
 |.bool,.bool=>true
 |.string,.string=>true
 |.slice e,.slice f=>Nat.beq e f
 |_,_=>false
theorem akU:∀(c d:TypeDesc),agS c d=true->c=d:=by
 intro c d h;unfold agS at h;split at h
 · grind
 .rfl
 .rfl
 · simp_all
 .cases h
def Ju(P:Program):List (Nat×TypeId)->List Field->Bool
 |[],[]=>true
 |(o,t)::r,f::fs=>Nat.beq o f.offset&&Nat.beq t f.type&&(P.info? f.type).isSome&&Ju P r fs
 |_,_=>false
theorem Xe{P:Program}:∀(l:List (Nat×TypeId))(fs:List Field),Ju P l fs=true->l=fs.map (λf=>(f.offset,f.type))/\∀f∈fs,(P.info? f.type).isSome=true
 |[],[],_=>⟨rfl,by simp⟩
 |(o,t)::r,f::fs,h=>by
  rw[Ju,as1,as1,as1]at h;obtain⟨⟨⟨h1,h2⟩,h3⟩,h4⟩:=h;obtain⟨e,hall⟩:=Xe r fs h4;refine⟨by rw[att,← e,asX h1,asX h2],λg hg=>?_⟩;rcases atw.1 hg with rfl|hg
  .exact h3
  .exact hall g hg
 |[],_::_,h|_::_,[],h=>by simp[Ju]at h
def akV(P:Program)(t:TypeId)(ti:TI):Bool:=
 match ti.kind,P.underlying t with
 |.scalar,some d=>match ti.cells.desc with|some c=>agS c d|none=>false
 |.str,some .string=>ti.cells.beq (.cons .str .nil)
 |.slice e,some (.slice f)=>Nat.beq e f&&(match ti.cells with|.cons (.sl g _) .nil=>Nat.beq g e|_=>false)
 |.struct fs,some (.struct yQ)=>Ju P fs yQ.toList
 |_,_=>false
def aiI(ti:TI)(z:Value):Bool:=match ti.kind with
 |.struct _=>true
 |_=>z.oneCell'
def ac8(P:Program)(t:TypeId)(ti:TI):Bool:=
 match P.info? t with
 |some i=>match i.zero with
  |some z=>Nat.beq i.size ti.cells.len&&Nat.beq i.bytes ti.bytes&&ti.cells.Nw z.cells.toList&&aiI ti z&&akV P t ti&&Nat.ble ti.bytes 4096&&(!ti.cmp||ajf P t ti.cells)
  |none=>false
 |none=>false
theorem jS.alZ{P:Program}{t:TypeId}{ti:TI}(h:ac8 P t ti=true):jS P t ti:=by
 unfold ac8 at h;split at h
 .next i hi=>
  split at h
  .next z hz=>
   simp only[as1]at h;obtain⟨⟨⟨⟨⟨⟨h1,h2⟩,h3⟩,h4⟩,h5⟩,h6⟩,h7⟩:=h;refine⟨⟨i,z,hi,asX h1,asX h2,hz,ak.aao _ _ h3,λhagg=>?_⟩,?_,by simp_all,λe w s u X xs ys vs us b hf hx hy he=>anA (by grind) w s u X xs ys vs us b hf hx hy he⟩
   · grind [aiI,TI.agg,EI]
   grind [akV,akU,ak.eq_of_beq,Nat.eq_of_beq_eq_true,Xe]
  .cases h
 .cases h
def Ny(P:Program):List (Nat×TI)->Bool
 |[]=>true
 |(t,ti)::r=>ac8 P t ti&&Ny P r
theorem agT{P:Program}:∀{l:List (Nat×TI)},Ny P l=true->∀t ti,aag l t=some ti->jS P t ti
 |[],_,t,ti,h=>by cases h
 |(i,x)::r,hc,t,ti,h=>by
  rw[Ny,as1]at hc;rw[aag]at h;cases hb:Nat.beq t i with
  |true=>rw[hb]at h;cases h;rw[asX hb];exact .alZ hc.1
  |false=>rw[hb]at h;exact agT hc.2 t ti h
def Vx(fn:Func):Bool:=fn.body.isSome&&!(fn.name== "runtime.NumGoroutine")
theorem qM{P:Program}{f:FuncId}{fn:Func}(hf:P.funcs[f]? =some fn)(hc:Vx fn=true):mO P f:=by
 intro args w;unfold Vx at hc;have h2:fn.body.isNone=false:=by simp_all
 grind [callFunc,Sem.run_bind,run_program,Result.andThen_ok,Sem.run_pure]
def akW(P:Program)(G:iV)(f:FuncId):EG->Prop
 |.pure c=>iM P G f c/\mO P f
 |.eff _ c=>CO P G f c/\mO P f
theorem akX{P:Program}{G:iV}{Θ:gY}(hT:∀t ti,Θ t=some ti->jS P t ti):∀{l:List (Nat×EG)},(∀x∈l,akW P G x.1 x.2)->EnvB P G Θ (Gq l)
 |[],_=>⟨hT,(λf con h=>by cases h),(λf ms con h=>by cases h)⟩
 |(i,c)::r,h=>by
  have ih:=akX (G:=G) hT λx hx=>h x (as8 _ hx);refine⟨hT,λf con hf=>?_,λf ms con hf=>?_⟩
  .rw[Gq]at hf;cases hb:Nat.beq f i with
   |true=>rw[hb]at hf;cases hf;rw[asX hb];exact h (i,.pure con) as9
   |false=>rw[hb]at hf;exact ih.cons f con hf
  .rw[Gq]at hf;cases hb:Nat.beq f i with
   |true=>rw[hb]at hf;cases hf;rw[asX hb];exact h (i,.eff ms con) as9
   |false=>rw[hb]at hf;exact ih.afW f ms con hf
end Go.Fw
namespace Go.Fw
open Go
structure PA where
 n:Nat
 sh:List fQ
 dh:List kG
 F:jD sh->Prop×o7 dh
structure XA where
 n:Nat
 sh:List gZ
 dh:List lJ
 F:mr sh->Prop×(yS dh×wP sh->Prop)
structure QA where
 n:Nat
 sh:List gZ
 dh:List eY
 F:mr sh->Prop×(jY dh->Prop)
def PA.e(q:PA):Nat×EG:=(q.n,.pure (lZ q.sh q.dh q.F))
def XA.e(q:XA):Nat×EG:=(q.n,.eff (agQ q.sh) (agf q.sh q.dh q.F))
def QA.e(q:QA):Nat×EG:=(q.n,.eff (agQ q.sh) (alY q.sh q.dh q.F))
def aap(P:Program)(G:iV)(x:Nat×EG):Prop:=akW P G x.1 x.2
def Tj(P:Program)(G:iV):List (Nat×EG)->Prop
 |[]=>True
 |x::l=>aap P G x/\Tj P G l
theorem al0{P:Program}{G:iV}{l':List (Nat×TI)}(hT:Ny P l'=true){l:List (Nat×EG)}(h:Tj P G l):EnvB P G (aag l') (Gq l):=
 akX (agT hT) (by
  induction l with
  |nil=>grind
  |cons y l ih=>exact List.forall_mem_cons.2 ⟨h.1,ih h.2⟩)
def ac9:(l:List eY)->(jY l->Prop)->Prop
 |[],p=>p ()
 |c::r,p=>∀x:c.den,ac9 r λy=>p (x,y)
theorem Nz:∀{l:List eY}{p:jY l->Prop},ac9 l p->∀x,p x
 |[],_,h,()=>h
 |_::_,_,h,(x,y)=>Nz (h x) y
def ajw:(l:List (List eY))->(yG l->Prop)->Prop
 |[],p=>p ()
 |c::r,p=>ac9 c λx=>ajw r λy=>p (x,y)
theorem agU:∀{l:List (List eY)}{p:yG l->Prop},ajw l p->∀x,p x
 |[],_,h,()=>h
 |_::_,_,h,(x,y)=>agU (Nz h x) y
def al1:(s:fQ)->(s.den->Prop)->Prop
 |.v (.one c),p=>∀x:c.den,p x
 |.v (.agg l),p=>ac9 l p
 |.kp l,p=>ac9 l p
 |.fn _ l,p=>ajw l p
theorem aiJ:∀{s:fQ}{p:s.den->Prop},al1 s p->∀x,p x
 |.v (.one _),_,h,x=>h x
 |.v (.agg _),_,h,x=>Nz h x
 |.kp _,_,h,x=>Nz h x
 |.fn _ _,_,h,x=>agU h x
def ajx:(l:List fQ)->(jD l->Prop)->Prop
 |[],p=>p ()
 |s::r,p=>al1 s λx=>ajx r λy=>p (x,y)
theorem agV:∀{l:List fQ}{p:jD l->Prop},ajx l p->∀x,p x
 |[],_,h,()=>h
 |_::_,_,h,(x,y)=>agV (aiJ h x) y
def aog:(s:gZ)->(s.den->Prop)->Prop
 |.p s,p=>al1 s p
 |.own _ r,p=>∀x:List r.den,p x
 |.ptr l,p=>ac9 l p
theorem anI:∀{s:gZ}{p:s.den->Prop},aog s p->∀x,p x
 |.p _,_,h,x=>aiJ h x
 |.own _ _,_,h,x=>h x
 |.ptr _,_,h,x=>Nz h x
def afZ:(l:List gZ)->(mr l->Prop)->Prop
 |[],p=>p ()
 |s::r,p=>aog s λx=>afZ r λy=>p (x,y)
theorem X4:∀{l:List gZ}{p:mr l->Prop},afZ l p->∀x,p x
 |[],_,h,()=>h
 |_::_,_,h,(x,y)=>X4 (anI h x) y
abbrev LP{α:Type}(x:α)(f:(α->Prop)->(α->Nat)->α->Prop):Prop:=∃(I:α->Prop),∃(μ:α->Nat),I x/\∀(y:α),I y->f I μ y
abbrev NX{σ α:Type}(s:σ)(I:α->Prop)(μ:α->Nat)(x y:α):Prop:=s=s/\I x/\μ x<μ y
def H0:Hints:=hints [] [] [] [] []
def BU(P:Program)(n:Nat):Func:=match P.funcs[n]? with|some f=>f|none=>default
def Hg(P:Program)(n k:Nat):Bool:=P.funcs[n]?.isSome&&Vx (BU P n)&&Nat.ble k (BU P n).ntmps
theorem Tm{P:Program}{n k:Nat}(h:Hg P n k=true):P.funcs[n]? =some (BU P n)/\(BU P n).body=some (codeOf (BU P n))/\mO P n/\Nat.ble k (BU P n).ntmps=true:=by
 grind [Hg,BU,qM,Vx,codeOf]
def PA.goal(q:PA)(g:(o7 q.dh->Prop)->Prop)(x:jD q.sh):Prop:=IA q.sh x->(q.F x).1->g λr=>r=(q.F x).2
def XA.goal(q:XA)(g:(yS q.dh×wP q.sh->Prop)->Prop)(x:mr q.sh):Prop:=KQ q.sh x->(q.F x).1->g (q.F x).2
def QA.goal(q:QA)(g:(jY q.dh->Prop)->Prop)(x:mr q.sh):Prop:=KQ q.sh x->(q.F x).1->g (q.F x).2
def PA.say(P:Program)(Θ:gY)(Γ:je)(H:Hints)(q:PA):Prop:=bif Hg P q.n q.sh.length then ajx q.sh λx=>q.goal (λK=>ER Θ Γ H (codeOf (BU P q.n)) (aah Θ (BU P q.n).results.toList q.dh K) (entry (BU P q.n).ntmps (qZ q.sh x))) x else False
def XA.say(P:Program)(Θ:gY)(Γ:je)(H:Hints)(q:XA):Prop:=bif Hg P q.n q.sh.length then afZ q.sh λx=>q.goal (λK=>ER Θ Γ H (codeOf (BU P q.n)) (afX Θ (BU P q.n).results.toList q.sh q.dh K) (CS (BU P q.n).ntmps (tY q.sh x))) x else False
def QA.say(P:Program)(Θ:gY)(Γ:je)(H:Hints)(q:QA):Prop:=bif Hg P q.n q.sh.length then afZ q.sh λx=>q.goal (λK=>ER Θ Γ H (codeOf (BU P q.n)) (afY (BU P q.n).results.toList q.dh K) (CS (BU P q.n).ntmps (tY q.sh x))) x else False
variable {P:Program} {Θ:gY} {Γ:je} {G:iV}
theorem PA.ok{q:PA}(hm:P.follows .mixedOrders=true)(hE:EnvB P G Θ Γ)(H:Hints){p:Prop}
 (hp:q.say P Θ Γ H=p) (h:p):aap P G q.e:=by
 subst hp;unfold PA.say at h;cases hc:Hg P q.n q.sh.length with
 |false=>grind
 |true=>rw[hc]at h;obtain⟨h1,h2,h3,h4⟩:=Tm hc;exact⟨ac4 hE hm h1 h2 H h4 λx hi hx=>agV h x hi hx,h3⟩
theorem XA.ok{q:XA}(hm:P.follows .mixedOrders=true)(hE:EnvB P G Θ Γ)(H:Hints)(hne:∀x,(q.F x).1->∃t,(q.F x).2 t){p:Prop}
 (hp:q.say P Θ Γ H=p) (h:p):aap P G q.e:=by
 subst hp;unfold XA.say at h;cases hc:Hg P q.n q.sh.length with
 |false=>grind
 |true=>rw[hc]at h;obtain⟨h1,h2,h3,h4⟩:=Tm hc;exact⟨anG hE hm h1 h2 H h4 hne λx hi hx=>X4 h x hi hx,h3⟩
theorem QA.ok{q:QA}(hm:P.follows .mixedOrders=true)(hE:EnvB P G Θ Γ)(H:Hints)(hne:∀x,(q.F x).1->∃t,(q.F x).2 t){p:Prop}
 (hp:q.say P Θ Γ H=p) (h:p):aap P G q.e:=by
 subst hp;unfold QA.say at h;cases hc:Hg P q.n q.sh.length with
 |false=>grind
 |true=>rw[hc]at h;obtain⟨h1,h2,h3,h4⟩:=Tm hc;exact⟨anH hE hm h1 h2 H h4 hne λx hi hx=>X4 h x hi hx,h3⟩
abbrev eY.i:eY:=.int .i64
abbrev eY.b:eY:=.bool
abbrev eY.s:eY:=.str
abbrev eY.l(e:TypeId)(r:ak):eY:=.sl e r false
abbrev eY.f(e:TypeId)(r:ak):eY:=.sl e r true
abbrev kG.i:kG:=.one .i
abbrev kG.b:kG:=.one .b
abbrev kG.s:kG:=.one .s
abbrev kG.l(e:TypeId)(r:ak):kG:=.one (.l e r)
abbrev kG.f(e:TypeId)(r:ak):kG:=.one (.f e r)
abbrev fQ.i:fQ:=.v .i
abbrev fQ.b:fQ:=.v .b
abbrev fQ.s:fQ:=.v .s
abbrev fQ.l(e:TypeId)(r:ak):fQ:=.v (.l e r)
abbrev gZ.i:gZ:=.p .i
abbrev gZ.b:gZ:=.p .b
abbrev gZ.s:gZ:=.p .s
abbrev gZ.l(e:TypeId)(r:ak):gZ:=.p (.l e r)
abbrev RC.i:RC:=.c .i
abbrev RC.b:RC:=.c .b
abbrev RC.s:RC:=.c .s
abbrev RC.l(e:TypeId)(r:ak):RC:=.c (.l e r)
abbrev RC.f(e:TypeId)(r:ak):RC:=.c (.f e r)
abbrev lJ.i:lJ:=.one .i
abbrev lJ.b:lJ:=.one .b
abbrev lJ.s:lJ:=.one .s
abbrev lJ.l(e:TypeId)(r:ak):lJ:=.one (.l e r)
abbrev lJ.f(e:TypeId)(r:ak):lJ:=.one (.f e r)
abbrev lJ.o(e:TypeId)(r:ak):lJ:=.one (.own e r true)
end Go.Fw
namespace Go.Fw
open Go
variable {P:Program} {G:iV} {f:FuncId}
abbrev rV:List UInt8:=[]
abbrev Gf:List (Int×Unit):=[]
theorem iM.weaken{con agW:Kw}(h:iM P G f con)(hc:∀args p out,agW args=some (p,out)->p->∃q,con args=some (q,out)/\q):iM P G f agW:=by intro args p out k S vs w hcon hp hG hrep;obtain⟨q,h1,h2⟩:=hc args p out hcon hp;exact h args q out k S vs w h1 h2 hG hrep
theorem CO.weaken{con agW:RV}(h:CO P G f con)(hc:∀args p ρ,agW args=some (p,ρ)->p->∃q,con args=some (q,ρ)/\q):CO P G f agW:=by intro args p ρ hcon hp;obtain⟨q,h1,h2⟩:=hc args p ρ hcon hp;exact h args q ρ h1 h2
theorem akY{sh:List fQ}{dh:List kG}{F:jD sh->Prop×o7 dh}(Fr Fs:Nat->jD sh->Prop×o7 dh)(h0:∀x,¬(Fr 0 x).1)(hs:∀n x,Fr (n+1) x=Fs n x)
 (hf:∀x,(F x).1->∃n,(Fr n x).1) (he:∀n x,(Fr n x).2=(F x).2) (step:∀n,iM P G f (lZ sh dh (Fr n))->iM P G f (lZ sh dh (Fs n))):iM P G f (lZ sh dh F):=by
 have all:∀n,iM P G f (lZ sh dh (Fr n)):=by
  intro n
  induction n with
  |zero=>
   intro args p out k S vs w hcon hp;unfold lZ Dz at hcon
   grind
  |succ n ih=>
   have e:Fr (n+1)=Fs n:=funext (hs n)
   grind
 intro args p out k S vs w hcon hp hG hrep;have af0:=hcon;unfold lZ Dz at af0;split at af0
 .next x hx=>
  have e:=Option.some.inj af0;have e1:(F x).1=p:=congrArg Prod.fst e;obtain⟨n,hn⟩:=hf x (e1.symm▸hp);refine all n args (Fr n x).1 out k S vs w ?_ hn hG hrep
  simp_all [lZ,Dz]
 .cases af0
end Go.Fw
namespace Go.Fw
open Go
variable {P:Program} {H:Type} {enc:TypeId×Value->H} {w:World}
def ak.app:ak->ak->ak
 |.nil,s=>s
 |.cons c r,s=>.cons c (r.app s)
def ajy:(r s:ak)->r.den->s.den->(r.app s).den
 |.nil,_,_,y=>y
 |.cons _ r,s,x,y=>(x.1,ajy r s x.2 y)
theorem aZ.app{h:Array Obj}{S:Nat->Prop}:∀(r s:ak)(x:r.den)(y:s.den)(vs us:List Value),aZ h S r vs x->aZ h S s us y->aZ h S (r.app s) (vs++us) (ajy r s x y)
 |.nil,s,x,y,vs,us,h1,h2=>by subst h1;exact h2
 |.cons c r,s,(x,x'),y,vs,us,h1,h2=>by obtain⟨v,vs',rfl,g1,g2⟩:=h1;exact⟨v,vs'++us,rfl,g1,aZ.app r s x' y vs' us g2 h2⟩
theorem add_add(a:Addr)(h:a.spot=none)(m j:Nat):(a.add m).add j=⟨a.block,a.off+m+j,none⟩:=by
 obtain⟨b,o,sp⟩:=a
 grind [Addr.add]
def KR(f:TypeId->Option ak):List Field->Nat->Option ak
 |[],_=>some .nil
 |x::r,off=>match f x.type with
  |some s=>match KR f r (off+s.len),Nat.beq x.offset off with
   |some u,true=>some (s.app u)
   |_,_=>none
  |none=>none
def rowOf(P:Program):Nat->TypeId->Option ak
 |0,_=>none
 |n+1,t=>match P.underlying t with
  |some (.int k)=>some (.cons (.int k) .nil)
  |some .bool=>some (.cons .bool .nil)
  |some .string=>some (.cons .str .nil)
  |some (.slice e)=>match rowOf P n e with
   |some s=>match Nat.beq s.len (P.cellsOf e)&&Nat.ble 1 s.len with
    |true=>some (.cons (.sl e s) .nil)
    |false=>none
   |none=>none
  |some (.struct fs)=>match KR (rowOf P n) fs.toList 0 with
   |some r=>match Nat.beq r.len (P.cellsOf t)with
    |true=>match fs.toList.all λf=>match rowOf P n f.type with|some s=>Nat.beq s.len (P.cellsOf f.type)|none=>false with
     |true=>some r
     |false=>none
    |false=>none
   |none=>none
  |_=>none
theorem aiK{α:Type}{Q:Nat->α->Prop}:∀(n:Nat),(∀i,i<n->∃x,Q i x)->∃l:List α,l.length=n/\∀i x,l[i]? =some x->Q i x
 |0,_=>⟨[],rfl,λi x h=>by simp at h⟩
 |n+1,h=>by
  obtain⟨l,hl,hq⟩:=aiK n λi hi=>h i (by omega);obtain⟨x,hx⟩:=h n (by omega);refine⟨l++[x],by simp[hl],λi y hy=>?_⟩
  grind
theorem aiL:∀(r s:ak),(r.app s).len=r.len+s.len
 |.nil,s=>by simp[ak.app,ak.len]
 |.cons c r,s=>by simp only[ak.app,ak.len,aiL r s];omega
theorem aaq{f:TypeId->Option ak}{S:Nat->Prop}{h:Array Obj}(cs:List Value)
 (part:∀(t:TypeId)(r:ak)(off:Nat),f t=some r->(∃g:Field,g.type=t/\g.offset=off)->True):∀(fs:List Field)(off:Nat)(r:ak),KR f fs off=some r->
 (∀g∈fs,∀s,f g.type=some s->∃x,aZ h S s ((cs.drop g.offset).take s.len) x)->
 ∃x,aZ h S r ((cs.drop off).take r.len) x
 |[],off,r,hr,_=>by
  cases hr
  simp_all [aZ,ak.len]
 |g::fs,off,r,hr,hall=>by
  rw[KR]at hr;split at hr
  .next s hs=>
   split at hr
   .next u hu hb=>
    cases hr;obtain⟨x,hx⟩:=hall g as9 s hs;rw[asX hb]at hx;obtain⟨y,hy⟩:=aaq cs part fs (off+s.len) u hu λg' hg'=>hall g' (as8 _ hg');refine⟨ajy s u x y,?_⟩
    grind [aZ.app,aiL,List.drop_drop]
   .cases hr
  .cases hr
theorem X5:∀(n:Nat)(t:TypeId)(r:ak),rowOf P n t=some r->∀(m:Nat)(base:Nat)(spare:Nat->Bool)(held:Bool)(cs:List Value)(x:DataW H×List MemPlace),
 DataW.trod enc P w base spare held m t cs=some x->∃y,aZ w.heap (λb=>b<w.heap.size) r cs y
 |0,t,r,hr=>by cases hr
 |n+1,t,r,hr=>by
  intro m base spare held cs x hx;rw[rowOf]at hr;split at hr
  .next k hu=>
   cases hr;obtain⟨i,rfl,_,hwf⟩:=DataW.trod_int hu hx
   simp_all [Lit.wf,aZ,dW]
  .next hu=>
   cases hr;obtain⟨b,rfl,_⟩:=DataW.trod_bool hu hx
   simp_all [aZ,dW]
  .next hu=>cases hr;obtain⟨s,rfl,_,hs⟩:=DataW.trod_string hu hx;refine⟨(s.data.toList,()),by simp_all [aZ,dW]⟩
  .next e hu=>
   split at hr
   .next s hs=>
    split at hr
    .next hb=>
     cases hr;rw[as1]at hb;have hlen:=asX hb.1;have hpos:1<=s.len:=by simp_all
     rcases DataW.trod_slice hu hx with⟨rfl,_⟩|⟨a,len,cap,elems,rest,k,_,rfl,_,hbase,hle,hmax,hel,hrow,_,_⟩
     .exact⟨([],()),by rw[aZ];exact⟨_,[],rfl,by rw[dW];exact⟨by simp,.inl ⟨rfl,none,0,rfl⟩⟩,by rw[aZ]⟩⟩
     .by_cases h0:len=0
      .subst h0;exact⟨([],()),by rw[aZ];exact⟨_,[],rfl,by rw[dW];exact⟨by simp,.inl ⟨rfl,some a,cap,rfl⟩⟩,by rw[aZ]⟩⟩
      .have each:∀i,i<len->∃(ys:List Value)(z:s.den),w.cells? base (a.add (i*P.cellsOf e)) (P.cellsOf e)=some ys/\aZ w.heap (λb=>b<w.heap.size) s ys z:=by
        intro i hi;have h1:=hrow i hi;rw[as5 (by omega)]at h1;obtain⟨ys,hys,hy2⟩:=auI.1 h1;obtain⟨z,hz⟩:=X5 n e s hs k base spare held ys _ hy2
        grind
       obtain⟨ys0,z0,hc0,hz0⟩:=each 0 (by omega);obtain⟨_,hl0,hcell0⟩:=World.cells?_some hc0;have X6:=hcell0 0 (by omega);simp only[Nat.zero_mul,Addr.add,if_true]at X6;have aqL:∃v,ys0[0]? =some v:=⟨ys0[0]'(by omega),by grind⟩;obtain⟨v0,hv0⟩:=aqL;rw[hv0]at X6;unfold World.cell? at X6;split at X6
       .next c ty fz hblk=>
        split at X6
        .cases X6
        .next hsp=>
         have hspot:a.spot=none:=by simp_all
         have ha:a=⟨a.block,a.off,none⟩:=by cases a;grind
         have hb':a.block<w.heap.size:=by
          grind
         have rows:∀i,i<len->∃z:s.den,aZ w.heap (λb=>b<w.heap.size) s ((c.toList.drop (a.off+i*s.len)).take s.len) z:=by
          intro i hi;obtain⟨ys,z,hcs,hz⟩:=each i hi;obtain⟨_,hl,hcell⟩:=World.cells?_some hcs;refine⟨z,?_⟩;have:(c.toList.drop (a.off+i*s.len)).take s.len=ys:=by
           refine aua λj=>?_
           grind [add_add,World.cell?]
          grind
         obtain⟨l,hll,hlq⟩:=aiK len rows;refine⟨(l,()),by rw[aZ];exact⟨_,[],rfl,by rw[dW];exact⟨by omega,.inr ⟨a.block,a.off,cap,c,ty,fz,by grind,by omega,hb',hblk,hlq⟩⟩,by rw[aZ]⟩⟩
       .cases X6
    .cases hr
   .cases hr
  .next fs hu=>
   split at hr
   .next r' hf=>
    split at hr
    .next hb=>
     split at hr
     .next hall=>
      cases hr;obtain⟨xs,k,_,_,hcl,hxl,hparts⟩:=DataW.trod_struct hu hx;have hlen:=asX hb;have:=aaq (h:=w.heap) (S:=λb=>b<w.heap.size) cs (λ_ _ _ _ _=>trivial) fs.toList 0 _ hf ?_
      · grind
      .intro g hg s hs;have hg2:=atq.1 hall g hg;rw[hs]at hg2;have hsl:=asX hg2;obtain⟨i,hi,hgi⟩:=auW.1 hg;have hp:=hparts i g (by grind);rw[as5 (by grind)]at hp;rw[hsl];exact X5 n g.type s hs k base spare held _ _ hp
     .cases hr
    .cases hr
   .cases hr
  .cases hr
def CT.csh:CT->eY
 |.int k=>.int k
 |.bool=>.bool
 |.str=>.str
 |.sl e r=>.sl e r false
def toC:(c:CT)->c.den->c.csh.den
 |.int _,x=>x
 |.bool,x=>x
 |.str,x=>x
 |.sl _ _,x=>x
def ak.shs:ak->List eY
 |.nil=>[]
 |.cons c r=>c.csh::r.shs
def toCs:(r:ak)->r.den->jY r.shs
 |.nil,_=>()
 |.cons c r,x=>(toC c x.1,toCs r x.2)
theorem ada(X:V):∀(r:ak)(vs:List Value)(x:r.den),aZ X.w.heap (X.bP false) r vs x->ai X (gu r.shs (toCs r x)) vs
 |.nil,vs,x,h=>by subst h;trivial
 |.cons c r,vs,(x,y),h=>by
  obtain⟨v,vs',rfl,h1,h2⟩:=h;refine⟨?_,ada X r vs' y h2⟩;cases c with
  |int k=>exact h1
  |bool=>exact h1
  |str=>exact h1
  |sl e r=>exact h1
def ajz(P:Program)(t:TypeId):Option kG:=
 match rowOf P 64 t with
 |some r=>match P.underlying t with
  |some (.struct _)=>some (.agg r.shs)
  |some (.array _ _)=>none
  |_=>match r with
   |.cons c .nil=>some (.one c.csh)
   |_=>none
 |none=>none
def Jv(P:Program):List TypeId->Option (List fQ)
 |[]=>some []
 |t::ts=>match ajz P t,Jv P ts with
  |some s,some l=>some (.v s::l)
  |_,_=>none
def start(w:World):V:=⟨w,w.heap.size,λb=>b<w.heap.size,λ_=>undef,λ_=>none⟩
theorem anJ{t:TypeId}{s:kG}(hs:ajz P t=some s){base base':Nat}{sp:Nat->Bool}{hd:Bool}{v:Value}{d:DataW H}{p:List MemPlace}
 (ht:DataW.Trod enc P w base sp hd t v d p) (hv:Value.okWide P w .any base' t v):∃x:s.den,dw (start w) (s.val x) v:=by
 unfold ajz at hs;split at hs
 .next r hr=>
  obtain⟨m,hm⟩:=ht;obtain⟨y,hy⟩:=X5 64 t r hr m base sp hd _ _ hm;have hy':aZ (start w).w.heap ((start w).bP false) r v.cells.toList y:=
   aZ.mono (λb hb=>⟨⟨⟨hb,λ_=>hb,λo x hx=>by cases hx⟩,λe=>by cases e⟩,rfl⟩) r _ y hy
  unfold Value.okWide at hv;split at hs
  .next fs hu=>cases hs;rw[hu]at hv;obtain⟨cs,rfl,_,_⟩:=hv;exact⟨toCs r y,cs,rfl,ada (start w) r _ y hy'⟩
  .cases hs
  .next hns hna=>
   split at hs
   .next c=>
    cases hs;have hcell:v.cells=#[v]:=by
     cases hv2:v<;>first
      |rfl
      |(exfalso
        rw[hv2]at hv;split at hv
        · grind
        · grind
        .unfold Go.Cell.okWide at hv;split at hv<;>first|(done)|(rename_i h2;cases h2;done)|skip;unfold Go.Cell.ok at hv;split at hv<;>first|(rename_i h1 h2;cases h2;done)|exact hv)
    have:=ada (start w) _ _ y hy';rw[hcell]at this;exact⟨toC c y.1,this.1⟩
   .cases hs
 .cases hs
theorem agX:∀(ts:List TypeId)(sh:List fQ),Jv P ts=some sh->∀{base base':Nat}{sp:Nat->Bool}{hd:Bool}(vs:List Value)(ds:List (DataW H))(p:List MemPlace),
 DataW.TrodAll enc P w base sp hd ts vs ds p->(∀(j:Nat) t v,ts[j]? =some t->vs[j]? =some v->Value.okWide P w .any base' t v)->∃x:jD sh,lS (start w) (qZ sh x) vs
 |[],sh,hs,_,_,_,_,vs,ds,p,h,_=>by
  cases hs;cases vs with
  |nil=>exact⟨(),trivial⟩
  |cons v vs=>cases ds<;>simp[DataW.TrodAll]at h
 |t::ts,sh,hs,base,base',sp,hd,vs,ds,p,h,hok=>by
  rw[Jv]at hs;split at hs
  .next s l h1 h2=>
   cases hs;cases vs with
   |nil=>cases ds<;>simp[DataW.TrodAll]at h
   |cons v vs=>
    cases ds with
    |nil=>simp[DataW.TrodAll]at h
    |cons d ds=>obtain⟨a,b,g1,g2,_⟩:=h;obtain⟨x,hx⟩:=anJ h1 g1 (hok 0 t v rfl rfl);obtain⟨y,hy⟩:=agX ts l h2 vs ds b g2 λj t' v' ht' hv'=>hok (j+1) t' v' (by simpa using ht') (by simpa using hv');exact⟨(x,y),hx,hy⟩
  .cases hs
mutual
theorem CT.Jw:∀(c:CT),c.beq c=true
 |.int k=>by simp[CT.beq]
 |.bool=>rfl
 |.str=>rfl
 |.sl e r=>by simp[CT.beq,ak.Jw r]
theorem ak.Jw:∀(r:ak),r.beq r=true
 |.nil=>rfl
 |.cons c r=>by simp[ak.beq,CT.Jw c,ak.Jw r]
end
theorem aeQ:∀(c:eY)(x:c.den),c.read (c.cell x)=some x
 |.int k,x=>by simp[eY.cell,eY.read]
 |.bool,x=>rfl
 |.str,x=>rfl
 |.sl e r fr,l=>by
  simp only[eY.cell,eY.read,atX];have h1:Jr fr fr=true:=by cases fr<;>rfl
  have h2:r.beq r=true:=ak.Jw r;rw[h1];rw[dif_pos h2];rfl
 |.nil,x=>rfl
 |.ref o,x=>by simp[eY.cell,eY.read]
 |.junk,x=>rfl
theorem aar:∀(l:List eY)(x:jY l),iZ l (gu l x)=some x
 |[],_=>rfl
 |c::r,x=>by rw[gu,iZ,aeQ c x.1,aar r x.2]
theorem agY:∀(ts:List TypeId)(l:List fQ),Jv P ts=some l->∀(x:jD l),ES l (qZ l x)=some x
 |[],l,h,x=>by cases h;rfl
 |t::ts,l,h,x=>by
  rw[Jv]at h;split at h
  .next s r h1 h2=>
   cases h;have ih:=agY ts r h2 x.2;cases s with
   |one c=>
    have e:(fQ.v (.one c)).read ((fQ.v (.one c)).val x.1)=some x.1:=aeQ c x.1;rw[qZ,ES,ih,e]
   |agg l=>have e:(fQ.v (.agg l)).read ((fQ.v (.agg l)).val x.1)=some x.1:=aar l x.1;rw[qZ,ES,ih,e]
  .cases h
def adb:Out:=⟨[(false,[.plain (.bool true)])],none⟩
theorem akZ{G:iV}{f:FuncId}{fn:Func}{sh:List fQ}{F:jD sh->Prop×Out}(hcon:iM P G f (Dz sh F))(hsh:Jv P fn.params.toList=some sh)
 (hF:∀x,IA sh x->(F x).1/\(F x).2=adb) (hG:G.ok w) {base base':Nat} {sp:Nat->Bool} {hd:Bool} {args:Array Value} {ds:List (DataW H)} {p:List MemPlace}
 (hA:DataW.TrodAll enc P w base sp hd fn.params.toList args.toList ds p) (hok:∀(j:Nat) t v,fn.params[j]? =some t->args[j]? =some v->Value.okWide P w .any base' t v):
 Calls P f args w λe w'=>e=.returned (.bool true)/\w'.os=w.os/\w'.output=w.output/\w.heap.size<=w'.heap.size/\∀b,b<w.heap.size->w'.heap[b]? =w.heap[b]? :=by
 obtain⟨x,hx⟩:=agX _ _ hsh _ _ _ hA λj t v ht hv=>hok j t v (by simpa using ht) (by simpa using hv);have hin:=Aa sh x _ hx;obtain⟨hp,ho⟩:=hF x hin;have hc:Dz sh F (qZ sh x)=some ((F x).1,adb):=by
  grind [Dz,agY]
 refine(hcon (qZ sh x) _ _ 0 _ args w hc hp hG hx).mono ?_;rintro e w' ⟨v,vals,rfl,h1,h2,h3,h4,h5,h6,_,_⟩;have hv:v=.bool true:=h6
 grind
theorem al2{w w':World}(h1:w'.os=w.os)(h3:w'.output=w.output)(h5:∀b,b<w.heap.size->w'.heap[b]? =w.heap[b]?)(may:MemPlace->Prop):w.keptBut w' may:=by
 refine⟨h1,h3,λi hi=>?_⟩
 grind
theorem al3{w w':World}(h5:∀b,b<w.heap.size->w'.heap[b]? =w.heap[b]?){p:MemPlace}(hp:p.block<w.heap.size):w.sameAt w' p:=by
 cases p with
 |cell b off=>
  show w'.cell? _=w.cell? _;unfold World.cell?;rw[h5 b hp]
 |map b=>exact h5 b hp
end Go.Fw
namespace Go.Fw
open Go
variable {P:Program} {G:iV} {f:FuncId}
theorem mM.mono{X Y:V}(h:X.le Y):∀(a:Arg)(v:Value),mM X a v->mM Y a v
 |.sv x,v,H=>dw.mono h x v H
 |.kp cs,v,H=>aQ.mono h (.dA cs 0) v H
 |.fn f caps,v,H=>aQ.mono h (.fn f caps) v H
 |.own _ _ _,_,H|.ptr _,_,H=>H.elim
theorem Jl.mono{X Y:V}(h:X.le Y)(i:Nat):∀(a:Arg)(v:Value),Jl X i a v->Jl Y i a v
 |.own _ _ _,v,H=>aK.mono h (.ref (i*64+49)) v H
 |.ptr _,v,H=>aQ.mono h (.eG (i*64+48) 0) v H
 |.sv x,v,H=>mM.mono h (.sv x) v H
 |.kp cs,v,H=>mM.mono h (.kp cs) v H
 |.fn f caps,v,H=>mM.mono h (.fn f caps) v H
theorem xC.nil{X Y:V}(h:X.le Y){e:TypeId}{r:ak}:∀(args:List Arg)(vs:List Value)(j i:Nat),args[i]? =some (.sv (.one .nil))->
 Y.ah ((j+i)*64+49)=some (.arr e r [] false)->Y.γ ((j+i)*64+49)=.slice none 0 0->xC X j args vs->xC Y j (args.set i (.own e r [])) vs
 |[],[],_,i,ha,_,_,_=>by simp at ha
 |[],_::_,_,_,_,_,_,H=>H.elim
 |_::_,[],_,_,_,_,_,H=>H.elim
 |a::args,v::vs,j,0,ha,ho,hγ,⟨h1,h2⟩=>by
  have ha:a=.sv (.one .nil):=by simpa using ha
  subst ha;have hv:v=.slice none 0 0:=h1;refine⟨⟨⟨e,r,[],false,ho⟩,?_,by rw[hv];rfl⟩,?_⟩
  · grind
  .clear h1 ha ho hγ hv;generalize j+1=k at h2
   induction args generalizing k vs with
   |nil=>cases vs with
    |nil=>trivial
    |cons _ _=>exact h2.elim
   |cons b args ih=>cases vs with
    |nil=>exact h2.elim
    |cons u vs=>exact⟨Jl.mono h k b u h2.1,ih vs (k+1) h2.2⟩
 |a::args,v::vs,j,i+1,ha,ho,hγ,⟨h1,h2⟩=>by
  have e1:j+(i+1)=j+1+i:=by omega
  rw[e1]at ho hγ;exact⟨Jl.mono h j a v h1,xC.nil h args vs (j+1) i (by simpa using ha) ho hγ h2⟩
end Go.Fw
namespace Go.Fw
open Go
theorem af{b:Bool}{A B:Prop}(h1:b=true->A)(h2:b=false->B):cond b A B:=by
 grind
theorem drop_cons{α:Type}(a:List α)(n:Nat)(d:α)(h:n<a.length):a.drop n=a.getD n d::a.drop (n+1):=by
 simp_all
theorem eu(z:Int)(h:-9223372036854775808<=z/\z<=9223372036854775807):IntKind.i64.wrap z=z:=IntWalk.i64_in z (by omega)
theorem maxLen_eq:maxLen=9223372036854775807:=by decide
theorem dm:big=4294967296:=rfl
theorem getD_mem{α:Type}{l:List α}{n:Nat}{d:α}(h:n<l.length):l.getD n d∈l:=by
 grind
end Go.Fw
namespace Go.Fw
open Go
def aoi(w:World)(S:Nat->Prop)(k:Nat)(out:Out)(e:Ending)(w':World):Prop:=
 ∃v vals,e=.returned v/\w'.os=w.os/\w'.tape=w.tape/\w'.output=w.output/\w.heap.size<=w'.heap.size/\
    (∀b,b<w.heap.size->w'.heap[b]? =w.heap[b]?)/\
    aQ ⟨w',w.heap.size,S,vals,Fw.look (out.take k).2⟩ (out.take k).1 v/\
    (∀o x,Fw.look (out.take k).2 o=some x->bD ⟨w',w.heap.size,S,vals,Fw.look (out.take k).2⟩ o x/\∀b,blk (vals o)=some b->w.heap.size<=b/\b<w'.heap.size)/\
    (∀o x q y b,Fw.look (out.take k).2 o=some x->Fw.look (out.take k).2 q=some y->o≠q->blk (vals o)=some b->blk (vals q)≠some b)
theorem agZ{w w':World}{S:Nat->Prop}{k:Nat}{s:Bytes}(hos:w'.os=w.os)(htape:w'.tape=w.tape)(hout:w'.output=w.output)(hsize:w.heap.size<=w'.heap.size)
 (aoj:∀b,b<w.heap.size->w'.heap[b]? =w.heap[b]?) (hs:s.length<=maxLen):aoi w S k ⟨[(false,[.plain (.str s)])],none⟩ (.returned (.string ⟨s.toArray⟩)) w':=
 ⟨_,λ_=>undef,rfl,hos,htape,hout,hsize,aoj,⟨rfl,hs⟩,(λo x hx=>by cases hx),(λo x q y b hx=>by cases hx)⟩
end Go.Fw
namespace Go.Fw
open Go Go.RowKit
def jr:Value->Prop
 |.int _ _=>True
 |.bool _=>True
 |.string _=>True
 |_=>False
def NC(v u:Value):Prop:=v=u\/jr v/\jr u
theorem NC.trans{a b c:Value}(h:NC a b)(k:NC b c):NC a c:=by
 rcases h with rfl|⟨h1,h2⟩
 .exact k
 .rcases k with rfl|⟨k1,k2⟩
  .exact .inr ⟨h1,h2⟩
  .exact .inr ⟨h1,k2⟩
theorem NC.jr{v u:Value}(h:NC v u)(k:Fw.jr v):Fw.jr u:=by
 rcases h with rfl|⟨_,h2⟩
 .exact k
 .exact h2
theorem NC.slice{a:Option Addr}{n c:Nat}{u:Value}(h:NC (.slice a n c) u):u=.slice a n c:=by
 rcases h with rfl|⟨h,_⟩
 .rfl
 .cases h
def X7(vs us:List Value):Prop:=vs.length=us.length/\∀(i:Nat)(v:Value),vs[i]? =some v->∃u,us[i]? =some u/\NC v u
theorem X7.cons{v:Value}{vs us:List Value}(h:X7 (v::vs) us):∃u us',us=u::us'/\NC v u/\X7 vs us':=by
 obtain⟨h1,h2⟩:=h;cases us with
 |nil=>cases h1
 |cons u us=>refine⟨u,us,rfl,?_,Nat.succ.inj h1,λi w hw=>h2 (i+1) w hw⟩;obtain⟨u',e,h⟩:=h2 0 v rfl;cases e;exact h
structure aF(P:Nat->Prop)(W w:World):Prop where
 os:w.os=W.os
 tape:w.tape=W.tape
 output:w.output=W.output
 size:W.heap.size<=w.heap.size
 block:∀b,b<W.heap.size->¬P b->w.heap[b]? =W.heap[b]?
 cells:∀(b:Nat)(cs:Array Value)(t:TypeId)(fz:Nat×Nat),W.heap[b]? =some (Obj.cells cs t fz)->∃cs':Array Value,w.heap[b]? =some (Obj.cells cs' t fz)/\cs'.size=cs.size/\∀(i:Nat)(v:Value),cs[i]? =some v->∃u,cs'[i]? =some u/\NC v u
theorem aF.refl(P:Nat->Prop)(W:World):aF P W W:=⟨rfl,rfl,rfl,as7 _,λ_ _ _=>rfl,λ_ cs _ _ h=>⟨cs,h,rfl,λ_ v hv=>⟨v,hv,.inl rfl⟩⟩⟩
theorem aF.trans{P:Nat->Prop}{a b c:World}(h:aF P a b)(k:aF P b c):aF P a c:=
 ⟨k.os.trans h.os,k.tape.trans h.tape,k.output.trans h.output,as3 h.size k.size,λx hx hp=>(k.block x (ati hx h.size) hp).trans (h.block x hx hp),λx cs t fz hx=>by obtain⟨c1,h1,h2,h3⟩:=h.cells x cs t fz hx;obtain⟨c2,k1,k2,k3⟩:=k.cells x c1 t fz h1;refine⟨c2,k1,k2.trans h2,λi v hv=>?_⟩;obtain⟨u,hu,s1⟩:=h3 i v hv;obtain⟨u',hu',s2⟩:=k3 i u hu;exact⟨u',hu',s1.trans s2⟩⟩
theorem aF.of{P:Nat->Prop}{a b:World}(h:Below a.heap.size a b):aF P a b:=
 ⟨h.os,h.tape,h.output,h.size,λx hx _=>h.block x hx,λx cs _ _ hx=>⟨cs,(h.block x (as2.1 hx).1).trans hx,rfl,λ_ v hv=>⟨v,hv,.inl rfl⟩⟩⟩
theorem dQ(P:Nat->Prop)(W:World)(o:Obj):aF P W (W.alloc o):=aF.of ((Below.refl _ _).alloc (as7 _) o)
theorem bJ{w:World}{g:Nat}{cur:Array Value}{t:TypeId}{fz:Nat×Nat}(h:w.heap[g]? =some (.cells cur t fz))(k:Nat):w.cell? ⟨g,k,none⟩=cur[k]? :=by simp[World.cell?,h]
theorem iQ{w:World}{g:Nat}{cur:Array Value}{t:TypeId}{fz:Nat×Nat}(h:w.heap[g]? =some (.cells cur t fz)){k:Nat}(hk:¬(fz.1<=k/\k<fz.2)):w.frozen? ⟨g,k,none⟩=false:=by obtain⟨lo,hi⟩:=fz;simp only[World.frozen?,h];simp only[Bool.and_eq_false_iff,atc];omega
theorem aiM{w:World}{p:Addr}{b:Nat}(v:Value)(h:b≠p.block):(w.setCell p v).heap[b]? =w.heap[b]? :=by simp only[World.setCell,Array.getElem?_modify,if_neg (au0 h)]
theorem ade{w:World}{g:Nat}{cur:Array Value}{t:TypeId}{fz:Nat×Nat}(h:w.heap[g]? =some (.cells cur t fz))(k:Nat)(v:Value):(w.setCell ⟨g,k,none⟩ v).heap[g]? =some (.cells (cur.setIfInBounds k v) t fz):=by simp only[World.setCell,Array.getElem?_modify,if_pos,h];rfl
theorem aF.set{P:Nat->Prop}{W:World}{g i:Nat}{u:Value}(v:Value)(hr:W.cell? ⟨g,i,none⟩=some u)(hu:jr u)(hp:P g)(hv:jr v):aF P W (W.setCell ⟨g,i,none⟩ v):=
 ⟨rfl,rfl,rfl,by simp[World.setCell],λb _ hb=>aiM v (λe=>hb (e▸hp)),λb cs t' fz hb=>by
   by_cases e:b=g
   .subst e;refine⟨_,ade hb i v,Array.size_setIfInBounds,λj x hj=>?_⟩;by_cases hij:i=j
    .subst hij;rw[bJ hb,hj]at hr;cases hr;exact⟨v,by rw[auK,if_pos (as2.1 hj).1],.inr ⟨hu,hv⟩⟩
    .exact⟨x,by rw[auR hij];exact hj,.inl rfl⟩
   .exact⟨cs,(aiM v e).trans hb,rfl,λ_ v hv=>⟨v,hv,.inl rfl⟩⟩⟩
theorem aF.slice{P:Nat->Prop}{W w:World}{g i:Nat}{a:Option Addr}{n c:Nat}(h:aF P W w)(hc:W.cell? ⟨g,i,none⟩=some (.slice a n c)):w.cell? ⟨g,i,none⟩=some (.slice a n c):=by
 rcases hW:W.heap[g]? with _|o
 .simp[World.cell?,hW]at hc
 .cases o with
  |cells cs t fz=>
   obtain⟨cs',h1,_,h3⟩:=h.cells g cs t fz hW;rw[bJ hW]at hc;obtain⟨u,hu,hs⟩:=h3 i _ hc;rw[bJ h1,hu,hs.slice]
  |_=>simp[World.cell?,hW]at hc
theorem aF.jr{P:Nat->Prop}{W w:World}{g i:Nat}{v:Value}(h:aF P W w)(hc:W.cell? ⟨g,i,none⟩=some v)(hs:Fw.jr v):∃u,w.cell? ⟨g,i,none⟩=some u/\Fw.jr u:=by
 rcases hW:W.heap[g]? with _|o
 .simp[World.cell?,hW]at hc
 .cases o with
  |cells cs t fz=>
   obtain⟨cs',h1,_,h3⟩:=h.cells g cs t fz hW;rw[bJ hW]at hc;obtain⟨u,hu,hs'⟩:=h3 i _ hc;exact⟨u,(bJ h1 i).trans hu,hs'.jr hs⟩
  |_=>simp[World.cell?,hW]at hc
theorem aF.fz{P:Nat->Prop}{W w:World}{g i:Nat}{v:Value}(h:aF P W w)(hc:W.cell? ⟨g,i,none⟩=some v)(hf:W.frozen? ⟨g,i,none⟩=false):w.frozen? ⟨g,i,none⟩=false:=by
 rcases hW:W.heap[g]? with _|o
 .simp[World.cell?,hW]at hc
 .cases o with
  |cells cs t fz=>
   obtain⟨cs',h1,_,h3⟩:=h.cells g cs t fz hW;simp only[World.frozen?,hW]at hf;simp only[World.frozen?,h1,hf]
  |_=>simp[World.cell?,hW]at hc
theorem aF.mono{P Q:Nat->Prop}{W w:World}(h:aF P W w)(hq:∀b,b<W.heap.size->P b->Q b):aF Q W w:=⟨h.os,h.tape,h.output,h.size,λb hb hn=>h.block b hb λe=>hn (hq b hb e),h.cells⟩
theorem aF.jf{P:Nat->Prop}{G:iV}{W w:World}(h:aF P W w)(hG:G.ok W)(hP:∀b,P b->G.n<=b):G.ok w:=
 G.stable W w hG h.size λb hb=>h.block b (ati hb (G.low W hG)) λhp=>by have:=hP b hp;omega
def aqM{α:Type}(h:Array Obj)(S:Nat->Prop)(size:Nat)(rep:List Value->α->Prop)(v:Value)(l:List α):Prop:=
 (l=[]/\∃a c,v=.slice a 0 c)\/
  ∃b off cap cs t fz,v=.slice (some ⟨b,off,none⟩) l.length cap/\l.length<=cap/\S b/\h[b]? =some (.cells cs t fz)/\(∀k,k<cs.size->¬(fz.1<=k/\k<fz.2))/\
   ∀i x,l[i]? =some x->rep ((cs.toList.drop (off+i*size)).take size) x
mutual
def iI(h:Array Obj)(S:Nat->Prop):(c:CT)->Value->c.den->Prop
 |.int _,v,_=>jr v
 |.bool,v,_=>jr v
 |.str,v,_=>jr v
 |.sl _ r,v,(l:List r.den)=>aqM h S r.len (λvs x=>ShR h S r vs x) v l
def ShR(h:Array Obj)(S:Nat->Prop):(r:ak)->List Value->r.den->Prop
 |.nil,vs,_=>vs=[]
 |.cons c r,vs,(x,y)=>∃v vs',vs=v::vs'/\iI h S c v x/\ShR h S r vs' y
end
mutual
theorem iI.of{w:World}{S:Nat->Prop}(hu:∀b,S b->unf w b):∀(c:CT)(v:Value)(x:c.den),dW w.heap S c v x->iI w.heap S c v x
 |.int k,v,(n:Int),H=>by rw[dW]at H;rw[iI,H.1];trivial
 |.bool,v,(b:Bool),H=>by rw[dW]at H;rw[iI,H];trivial
 |.str,v,(s:Bytes),H=>by rw[dW]at H;rw[iI,H.1];trivial
 |.sl _ r,v,(l:List r.den),H=>by
  rw[dW]at H;rw[iI];rcases H.2 with h|⟨b,off,cap,cs,t,fz,h1,h2,h3,h4,h5⟩
  .exact .inl h
  .exact .inr ⟨b,off,cap,cs,t,fz,h1,h2,h3,h4,hu b h3 cs t fz h4,λi x hx=>ShR.of hu r _ x (h5 i x hx)⟩
theorem ShR.of{w:World}{S:Nat->Prop}(hu:∀b,S b->unf w b):∀(r:ak)(vs:List Value)(x:r.den),aZ w.heap S r vs x->ShR w.heap S r vs x
 |.nil,vs,_,H=>by simpa[aZ,ShR]using H
 |.cons c r,vs,(x,y),H=>by rw[aZ]at H;rw[ShR];obtain⟨v,vs',e,h1,h2⟩:=H;exact⟨v,vs',e,iI.of hu c v x h1,ShR.of hu r vs' y h2⟩
end
theorem X7.sub{cs cs':Array Value}(hs:cs'.size=cs.size)(h:∀(i:Nat)(v:Value),cs[i]? =some v->∃u,cs'[i]? =some u/\NC v u)(a n:Nat):X7 ((cs.toList.drop a).take n) ((cs'.toList.drop a).take n):=by
 refine⟨by simp[hs],λi v hv=>?_⟩;rw[atJ]at hv ⊢;split at hv
 · rename_i hi
   rw[if_pos hi];rw[atN,Array.getElem?_toList]at hv ⊢;exact h _ v hv
 .cases hv
mutual
theorem iI.soft{P S:Nat->Prop}{W w:World}(s:aF P W w):∀(c:CT)(v u:Value)(x:c.den),NC v u->iI W.heap S c v x->iI w.heap S c u x
 |.int k,v,u,(n:Int),hs,H=>by rw[iI]at H ⊢;exact hs.jr H
 |.bool,v,u,(b:Bool),hs,H=>by rw[iI]at H ⊢;exact hs.jr H
 |.str,v,u,(_:Bytes),hs,H=>by rw[iI]at H ⊢;exact hs.jr H
 |.sl _ r,v,u,(l:List r.den),hs,H=>by
  rw[iI]at H ⊢;rcases H with⟨h,a,c,rfl⟩|⟨b,off,cap,cs,t,fz,rfl,h2,h3,h4,h5,h6⟩
  .exact .inl ⟨h,a,c,hs.slice⟩
  .obtain⟨cs',k1,k2,k3⟩:=s.cells b cs t fz h4;exact .inr ⟨b,off,cap,cs',t,fz,hs.slice,h2,h3,k1,λk hk=>h5 k (k2▸hk),λi x hx=>ShR.soft s r _ _ x (X7.sub k2 k3 _ _) (h6 i x hx)⟩
theorem ShR.soft{P S:Nat->Prop}{W w:World}(s:aF P W w):∀(r:ak)(vs us:List Value)(x:r.den),X7 vs us->ShR W.heap S r vs x->ShR w.heap S r us x
 |.nil,vs,us,_,hs,H=>by
  rw[ShR]at H ⊢;subst H;exact atH.1 hs.1.symm
 |.cons c r,vs,us,(x,y),hs,H=>by rw[ShR]at H ⊢;obtain⟨v,vs',rfl,h1,h2⟩:=H;obtain⟨u,us',rfl,k1,k2⟩:=hs.cons;exact⟨u,us',rfl,iI.soft s c v u x k1 h1,ShR.soft s r vs' us' y k2 h2⟩
end
theorem iI.keep{P S:Nat->Prop}{W w:World}{c:CT}{v:Value}{x:c.den}(h:iI W.heap S c v x)(s:aF P W w):iI w.heap S c v x:=h.soft s c v v x (.inl rfl)
theorem iI.form{h:Array Obj}{S:Nat->Prop}{e:TypeId}{r:ak}{v:Value}{l:List r.den}(H:iI h S (.sl e r) v l):∃a c,v=.slice a l.length c:=by rw[iI]at H;rcases H with⟨rfl,a,c,rfl⟩|⟨b,off,cap,cs,t,fz,rfl,_⟩<;>exact⟨_,_,rfl⟩
theorem dG{cs:Array Value}{a n:Nat}{vs:List Value}(h:(cs.toList.drop a).take n=vs){k:Nat}{v:Value}(hv:vs[k]? =some v):cs[a+k]? =some v:=by
 rw[← h,atJ]at hv;split at hv
 .rw[atN,Array.getElem?_toList]at hv;exact hv
 .cases hv
def cnt{α:Type}(f:α->Nat):List α->Nat
 |[]=>0
 |x::l=>f x+cnt f l
theorem OW{α:Type}(f:α->Nat):∀(a b:List α),cnt f (a++b)=cnt f a+cnt f b
 |[],b=>by show _=0+_;rw[atS];rfl
 |p::r,b=>by show f p+cnt f (r++b)=f p+cnt f r+cnt f b;rw[OW f r b];omega
theorem uI{α:Type}(f:α->Nat){l:List α}{m:Nat}{x:α}(h:l[m]? =some x):cnt f (l.take (m+1))=cnt f (l.take m)+f x/\cnt f (l.take m)+f x<=cnt f l:=by
 obtain⟨hl,e⟩:=ath.1 h;have e1:l.take (m+1)=l.take m++[x]:=by rw[atO hl,e]
 have e2:cnt f [x]=f x:=rfl;have e3:cnt f l=cnt f (l.take (m+1))+cnt f (l.drop (m+1)):=by rw[← OW,auP]
 rw[e1,OW,e2]at e3 ⊢;omega
theorem vY{α:Type}{f:α->Nat}:∀{l:List α},(∀x,1<=f x)->l.length<=cnt f l
 |[],_=>as7 _
 |x::l,h=>by have:=vY (l:=l) h;have:=h x;show l.length+1<=f x+cnt f l;omega
def Rg(w:World)(lo hi b:Nat):Prop:=lo<=b/\b<hi/\unf w b
abbrev New(w w':World):Nat->Prop:=Rg w' w.heap.size w'.heap.size
inductive kM where
 |box (b:Nat) (o:Obj)
 |tree (lo hi:Nat) (c:CT) (v:Value) (x:c.den)
 |row (lo hi:Nat) (r:ak) (vs:List Value) (x:r.den)
def kM.ok(w:World):kM->Prop
 |.box b o=>w.heap[b]? =some o
 |.tree lo hi c v x=>hi<=w.heap.size/\dW w.heap (Rg w lo hi) c v x
 |.row lo hi r vs x=>hi<=w.heap.size/\aZ w.heap (Rg w lo hi) r vs x
def kM.apart(P:Nat->Prop):kM->Prop
 |.box b _=>¬P b
 |.tree lo hi _ _ _=>∀b,P b->¬(lo<=b/\b<hi)
 |.row lo hi _ _ _=>∀b,P b->¬(lo<=b/\b<hi)
def Mem(w:World):List kM->Prop
 |[]=>True
 |e::l=>e.ok w/\Mem w l
def ag0(P:Nat->Prop):List kM->Prop
 |[]=>True
 |e::l=>e.apart P/\ag0 P l
theorem Mem.soft{P:Nat->Prop}{w w':World}(s:aF P w w'):∀{l:List kM},Mem w l->ag0 P l->Mem w' l
 |[],_,_=>trivial
 |.box b o::l,⟨h1,h2⟩,⟨k1,k2⟩=>⟨(s.block b (as2.1 h1).1 k1).trans h1,Mem.soft s h2 k2⟩
 |.tree lo hi c v x::l,⟨⟨h0,h1⟩,h2⟩,⟨k1,k2⟩=>⟨⟨as3 h0 s.size,dW.mono (λb hb=>have e:=s.block b (ati hb.2.1 h0) λhp=>k1 b hp ⟨hb.1,hb.2.1⟩
    ⟨⟨hb.1,hb.2.1,hb.2.2.keep e⟩,e⟩) c v x h1⟩,Mem.soft s h2 k2⟩
 |.row lo hi r vs x::l,⟨⟨h0,h1⟩,h2⟩,⟨k1,k2⟩=>⟨⟨as3 h0 s.size,aZ.mono (λb hb=>have e:=s.block b (ati hb.2.1 h0) λhp=>k1 b hp ⟨hb.1,hb.2.1⟩
    ⟨⟨hb.1,hb.2.1,hb.2.2.keep e⟩,e⟩) r vs x h1⟩,Mem.soft s h2 k2⟩
theorem Gw:∀(l:List kM),ag0 (λ_=>False) l
 |[]=>trivial
 |.box _ _::l=>⟨λh=>h,Gw l⟩
 |.tree _ _ _ _ _::l=>⟨λ_ h=>h.elim,Gw l⟩
 |.row _ _ _ _ _::l=>⟨λ_ h=>h.elim,Gw l⟩
theorem Mem.below{w w':World}(s:Below w.heap.size w w'){l:List kM}(h:Mem w l):Mem w' l:=h.soft (P:=λ_=>False) (aF.of s) (Gw l)
theorem kM.new{w w':World}{c:CT}{v:Value}{x:c.den}(h:dW w'.heap (New w w') c v x):kM.ok w' (.tree w.heap.size w'.heap.size c v x):=⟨as7 _,h⟩
theorem kM.lt{w:World}{lo hi:Nat}{c:CT}{v:Value}{x:c.den}(h:kM.ok w (.tree lo hi c v x)):dW w.heap (λb=>b<w.heap.size) c v x:=
 dW.mono (λ_ hb=>⟨ati hb.2.1 h.1,rfl⟩) c v x h.2
theorem kM.newR{w w':World}{r:ak}{vs:List Value}{x:r.den}(h:aZ w'.heap (New w w') r vs x):kM.ok w' (.row w.heap.size w'.heap.size r vs x):=⟨as7 _,h⟩
theorem kM.ltR{w:World}{lo hi:Nat}{r:ak}{vs:List Value}{x:r.den}(h:kM.ok w (.row lo hi r vs x)):aZ w.heap (λb=>b<w.heap.size) r vs x:=
 aZ.mono (λ_ hb=>⟨ati hb.2.1 h.1,rfl⟩) r vs x h.2
theorem kM.aok{w:World}{lo hi:Nat}{r:ak}{vs:List Value}{x:r.den}(h:kM.ok w (.row lo hi r vs x)):ShR w.heap (Rg w lo hi) r vs x:=ShR.of (λ_ hb=>hb.2.2) r vs x h.2
theorem kM.shape{w:World}{lo hi:Nat}{c:CT}{v:Value}{x:c.den}(h:kM.ok w (.tree lo hi c v x)):iI w.heap (Rg w lo hi) c v x:=iI.of (λ_ hb=>hb.2.2) c v x h.2
theorem ag2{P:Nat->Prop}{B:Nat}{W w w':World}(h:Below B W w)(s:aF P w w')(hB:B<=w.heap.size)(hP:∀b,P b->B<=b):Below B W w':=
 ⟨s.os.trans h.os,s.tape.trans h.tape,s.output.trans h.output,as3 h.size s.size,λb hb=>(s.block b (ati hb hB) λhp=>au9.2 (hP b hp) hb).trans (h.block b hb)⟩
theorem Ef(X:V)(fr:Bool):∀(r:ak)(vs:List Value)(x:r.den),ai X (ak.row fr r x) vs->aZ X.w.heap (X.bP fr) r vs x
 |.nil,[],_,_=>rfl
 |.nil,_::_,_,h=>by cases h
 |.cons c r,[],_,h=>by cases h
 |.cons (.int k) r,v::vs,(x,y),⟨h1,h2⟩=>⟨v,vs,rfl,h1,Ef X fr r vs y h2⟩
 |.cons .bool r,v::vs,(x,y),⟨h1,h2⟩=>⟨v,vs,rfl,h1,Ef X fr r vs y h2⟩
 |.cons .str r,v::vs,(x,y),⟨h1,h2⟩=>⟨v,vs,rfl,h1,Ef X fr r vs y h2⟩
 |.cons (.sl _ _) r,v::vs,(x,y),⟨h1,h2⟩=>⟨v,vs,rfl,h1,Ef X fr r vs y h2⟩
inductive Tok:Nat->Prop where
 |mk (n:Nat):Tok n
end Go.Fw
namespace Go.Fw
open Go
variable {P:Program} {H:Type} {enc:TypeId×Value->H} {w:World}
theorem Qr(hl:laidOutB P=true){base:Nat}{sp':Nat->Bool}{W W':World}:∀(ts:List TypeId)(_:ts.all (λt=>P.readableRec t&&decide (t<P.types.size))=true)
 (vs:List Value) (ds:List (DataW H)) (ps:List MemPlace),DataW.TrodAll enc P W base (λ_=>true) true ts vs ds ps->(∀p∈ps,W.sameAt W' p)->(∀p∈ps,sp' p.block=true)->DataW.TrodAll enc P W' base sp' true ts vs ds ps
 |[],_,vs,ds,ps,h,_,_=>by
  cases vs<;>cases ds<;>simp[DataW.TrodAll]at h ⊢;exact h
 |t::ts,ht,vs,ds,ps,h,h1,h2=>by
  rw[atQ,as1,as1]at ht;cases vs with
  |nil=>cases ds<;>simp[DataW.TrodAll]at h
  |cons v vs=>
   cases ds with
   |nil=>simp[DataW.TrodAll]at h
   |cons d ds=>
    obtain⟨a,b,g1,g2,rfl⟩:=h;exact⟨a,b,WideElems.Trod_stays hl ht.1.1 (at7 ht.1.2) g1 (λp hp=>h1 p (atK _ hp)) (λp hp=>h2 p (atK _ hp)),
     Qr hl ts ht.2 vs ds b g2 (λp hp=>h1 p (aue _ hp)) (λp hp=>h2 p (aue _ hp)),rfl⟩
theorem trodAll_length{base:Nat}{sp:Nat->Bool}{hd:Bool}{W:World}:∀(ts:List TypeId)(vs:List Value)(ds:List (DataW H))(ps:List MemPlace),DataW.TrodAll enc P W base sp hd ts vs ds ps->ds.length=ts.length
 |[],vs,ds,ps,h=>by cases vs<;>cases ds<;>simp[DataW.TrodAll]at h ⊢
 |t::ts,vs,ds,ps,h=>by
  cases vs with
  |nil=>cases ds<;>simp[DataW.TrodAll]at h
  |cons v vs=>
   cases ds with
   |nil=>simp[DataW.TrodAll]at h
   |cons d ds=>obtain⟨a,b,g1,g2,rfl⟩:=h;simp[trodAll_length ts vs ds b g2]
theorem al4{fn:Func}{s:ChangeSpec}{apart fresh handsOn again:Bool}{W W':World}{args:Array Value}{ds gs:List (DataW H)}{before:List MemPlace}{tb:TypeId}
 (hvars:s.vars=[]) (hspec:∀l:List (DataW H),l.length=fn.params.toList.length->(s.fn H l).results=[.lit (.bool true)]/\(s.fn H l).args=l/\(s.fn H l).vars=[])
 (hres:fn.resultTypes=#[tb]) (hb:P.underlying tb=some .bool) (hl:laidOutB P=true) (hread:fn.params.toList.all (λt=>P.readableRec t&&decide (t<P.types.size))=true)
 (hW:DataW.Whole enc P fn.params.toList s.vars apart W args.toList ds gs before) (hos:W'.os=W.os) (hout:W'.output=W.output) (hheap:∀b,b<W.heap.size->W'.heap[b]? =W.heap[b]?):
 s.post enc P fn apart fresh handsOn again W args (.bool true) W':=by
 have hlt:=hW.lt;have hW0:=hW;obtain⟨p,q,hA,hV,hpq,hz,hn⟩:=hW;have hg:gs=[]/\q=[]:=by
  grind [DataW.TrodVars]
 obtain⟨rfl,rfl⟩:=hg;rw[atM]at hpq;subst hpq;have hlen:=trodAll_length _ _ _ _ hA;obtain⟨r1,r2,r3⟩:=hspec (ds++[]) (by grind);rw[atM]at r1 r2 r3;have hsame:∀x∈before,W.sameAt W' x:=λx hx=>al3 hheap (hlt x hx);have R:∀(b:Nat)(sp:Nat->Bool)(hd:Bool),DataW.TrodAll enc P W' b sp hd fn.resultTypes.toList ((Value.bool true).resultList fn.resultTypes.size) [.lit (.bool true)] []:=by intro b sp hd;rw[hres];exact⟨[],[],⟨1,by simp[DataW.trod,Value.cells,hb]⟩,rfl,rfl⟩
 have A:∀sp:Nat->Bool,(∀x∈before,sp x.block=true)->DataW.TrodAll enc P W' 0 sp true fn.params.toList args.toList ds before:=λsp hsp=>Qr hl _ hread _ _ _ hA hsame hsp;refine⟨ds,[],before,[],before,[],hW0,?_,?_,?_,al2 hos hout hheap _,λ_=>⟨?_,.lit (.bool true)::ds,[],before,⟨before,[],?_,?_,by simp,?_,hn⟩,λx hx _=>hx⟩⟩
 · grind
 · grind
 .rw[atM,r3,hvars];rfl
 .intro j t r h1 h2;rw[hres]at h1 h2
  match j with
  |0=>
   simp[Value.resultList]at h1 h2;subst h1 h2;simp[Value.okWide,hb,Go.Cell.okWide,Go.Cell.ok]
  |j+1=>simp at h1
 .exact ChangeShapes.trodAll_append (A _ (λ_ _=>rfl)) (R _ _ _)
 .rw[hvars];rfl
 .intro b off hp;have hbl:=hlt _ hp;have e:W'.frozen? ⟨b,off,none⟩=W.frozen? ⟨b,off,none⟩:=by unfold World.frozen?;rw[hheap b hbl]
  rw[e];exact hz b off hp
end Go.Fw
namespace Go.Fw
open Go
theorem aas{H:Type}{enc:TypeId×Value->H}{C:Checked}{G:iV}{os:Os}{f:FuncId}{fn:Func}{s:ChangeSpec}{conds:List PathCond}{apart fresh handsOn again:Bool}{tb:TypeId}{sh:List fQ}{F:jD sh->Prop×Out}
 {X:World->Prop} (hX:∀w w':World,w.heap=w'.heap->X w->X w')
 (own:ownKnob C.prog.godebug=none) (started:os.Started) (noInit:C.prog.inits.idxOf? f=none) (hfn:C.prog.funcs[f]? =some fn)
 (witness:∃(w:World)(tape:Tape)(i:Input),w.os=os/\(w.forCall tape i).Shaped C.prog/\i.vars=[]/\Input.okWide C.prog (w.forCall tape i) .any w.heap.size f i/\
   ((s.pre enc C.prog fn conds apart (w.forCall tape i).memory i.args/\X (w.forCall tape i).memory)/\sizedMet enc C.prog fn (OpenSpec.ofChange s) apart (w.forCall tape i).memory i.args)/\({}:Assume).holds C.prog (lone (Frame.enter C.prog f i.args .normal) [] (w.forCall tape i)))
 (hcon:iM C.prog G f (Dz sh F)) (hsh:Jv C.prog fn.params.toList=some sh) (hF:∀x,IA sh x->(F x).1/\(F x).2=adb) (hG:∀w,X w->G.ok w)
 (hvars:s.vars=[]) (hspec:∀l:List (DataW H),l.length=fn.params.toList.length->(s.fn H l).results=[.lit (.bool true)]/\(s.fn H l).args=l/\(s.fn H l).vars=[])
 (hres:fn.resultTypes=#[tb]) (hb:C.prog.underlying tb=some .bool) (hl:laidOutB C.prog=true) (hread:fn.params.toList.all (λt=>C.prog.readableRec t&&decide (t<C.prog.types.size))=true):
 ReturnsInHanded {} C os f .any (λw args=>(s.pre enc C.prog fn conds apart w args/\X w)/\sizedMet enc C.prog fn (OpenSpec.ofChange s) apart w args) (s.post enc C.prog fn apart fresh handsOn again):=by
 refine returnsInHanded_of_change_and (X:=λw _=>X w) (λw w' _ h hx=>hX w w' h hx) own started noInit hfn witness ?_;intro W base args ds gs before hval hW _ _ hx _;have hW0:=hW;obtain⟨p,q,hA,_⟩:=hW;refine(akZ hcon hsh hF (hG W hx) hA hval).mono ?_
 grind [al4]
end Go.Fw
