import Derived.Test.YtjomchafleahdaaGreatFwD
import Derived.Test.YtjomchafleahdaaGreatFwB
import Derived.Test.YtjomchafleahdaaGreatFwA
import Derived.ChangeArms
import Derived.WideKeyArgs
import Derived.ChangeSame
import Derived.ChangeOld
import Derived.Handed
import Derived.IntWalk
import Derived.Below
import Derived.ProofKit
namespace Go.Fw
open Go
variable {P:Program} {w0:World} {M:Nat->Prop} {T:Ext} {γ γ':Nat->Value} {st:St} {a:Act} {w w':World} {Θ:gU} {Γ:jf}
structure Fa where
 ahX:List QX
 c:Shape
 v:Shape
structure Hints where
 own:Nat->Bool
 loops:Nat->Option Fa
 cuts:Nat->Option Fa
 upd:List Nat
 frz:Nat->List Pre
def tZ:Code->Option Nat
 |.region id _ _=>some id
 |.seq x y=>match tZ x with|some n=>some n|none=>tZ y
 |.cond _ x y=>match tZ x with|some n=>some n|none=>tZ y
 |.block _ x|.loop x=>tZ x
 |_=>none
def cutAt(H:Hints)(y:Code):Option Fa:=match tZ y with
 |some n=>H.cuts n
 |none=>none
def Eg(Θ:gU)(Γ:jf)(H:Hints):Code->(Exit->St->Prop)->St->Prop
 |.skip,Q,st=>Q .normal st
 |.region id ops false,Q,st=>NI (H.frz id) (runs Θ Γ H.own ops.toList (Q .normal) ops.toList) st
 |.region id ops true,Q,st=>NI (H.frz id) (JE Θ Γ H.own H.upd ops.toList (Q .normal)) st
 |.seq x y,Q,st=>match cutAt H y with
  |none=>Eg Θ Γ H x (λe s=>match e with|.normal=>Eg Θ Γ H y Q s|e=>Q e s) st
  |some sp=>match sp.c.read (only sp.c sp.v st)with
   |some x0=>∃(J:sp.v.den->Prop),Eg Θ Γ H x (λe s=>match e with
     |.normal=>match settles s sp.ahX with
      |some s1=>match Nat.beq s1.n st.n,sp.c.read (only sp.c sp.v s1),sp.v.read (only sp.c sp.v s1)with
       |true,some x1,some y1=>x1=x0/\J y1
       |_,_,_=>False
      |none=>False
     |e=>Q e s) st/\∀y1,J y1->Eg Θ Γ H y Q (joint st.n sp.c sp.v x0 y1)
   |none=>False
 |.cond c x y,Q,st=>match st.ev c with
  |.sv (.one (.bool b))=>cond b (Eg Θ Γ H x Q st) (Eg Θ Γ H y Q st)
  |_=>False
 |.block id c,Q,st=>Eg Θ Γ H c (λe s=>match e with
  |.exit i=>match Nat.beq i id with|true=>Q .normal s|false=>Q (.exit i) s
  |e=>Q e s) st
 |.exit id,Q,st=>Q (.exit id) st
 |.ret,Q,st=>Q .ret st
 |.loop c,Q,st=>match tZ c with
  |some n=>match H.loops n with
   |some sp=>match settles st sp.ahX with
    |some s0=>match sp.c.read (only sp.c sp.v s0),sp.v.read (only sp.c sp.v s0)with
     |some x0,some y0=>∃(I:sp.v.den->Prop)(μ:sp.v.den->Nat),I y0/\∀y,I y->
       Eg Θ Γ H c (λe s=>match e with
        |.normal=>match settles s sp.ahX with
         |some s1=>match Nat.beq s1.n s0.n,sp.c.read (only sp.c sp.v s1),sp.v.read (only sp.c sp.v s1)with
          |true,some x1,some y1=>x1=x0/\I y1/\μ y1<μ y
          |_,_,_=>False
         |none=>False
        |e=>Q e s) (joint s0.n sp.c sp.v x0 y)
     |_,_=>False
    |none=>False
   |none=>False
  |none=>False
 |_,_,_=>False
theorem QY{G:iQ}(hE:oO P G Θ Γ w0 M)(hm:P.follows .mixedOrders=true)(H:Hints):∀(c:Code)(QA:Exit->St->Prop)(Q:Exit->Act->World->Prop)(st:St)(γ:Nat->Value)(a:Act)(w:World),
 Rel w0 M T γ st a w->Eg Θ Γ H c QA st->(∀e s γ' a' w',QA e s->Rel w0 M T γ' s a' w'->Q e a' w')->c.wp P Q a w:=by
 intro c
 induction c with
 |skip=>intro QA Q st γ a w h ha hQ;exact wp_skip (hQ _ _ _ _ _ ha h)
 |region id ops d=>
  intro QA Q st γ a w h ha hQ;cases d with
  |false=>
   obtain⟨s0,γ0,h0,hk0⟩:=AB (K:=runs Θ Γ H.own ops.toList (QA .normal) ops.toList) (H.frz id) st γ h ha
   grind [afi]
  |true=>
   obtain⟨s0,γ0,h0,hk0⟩:=AB (K:=JE Θ Γ H.own H.upd ops.toList (QA .normal)) (H.frz id) st γ h ha
   grind [ajh]
 |seq x y ihx ihy=>
  intro QA Q st γ a w h ha hQ;rw[Eg]at ha;split at ha
  .refine wp_seq (ihx _ _ st γ a w h ha ?_);intro e s γ' a' w' hq hR;cases e<;>first|exact ihy _ _ s γ' a' w' hR hq hQ|exact hQ _ _ _ _ _ hq hR
  .next sp hsp=>
   split at ha
   .next x0 hx=>
    obtain⟨J,h1,h2⟩:=ha;refine wp_seq (ihx _ _ st γ a w h h1 ?_);intro e s γ' a' w' hq hR;cases e with
    |normal=>
     simp only at hq;split at hq
     .next s1 hs1=>
      split at hq
      .next x1 y1 hsn hx1 hy1=>obtain⟨rfl,hJ⟩:=hq;obtain⟨γ1,hR1⟩:=Rel.settles _ hR hs1;have hR2:=hR1.joint hx1 hy1;rw[aq3 hsn]at hR2;exact ihy _ _ _ γ1 a' w' hR2 (h2 _ hJ) hQ
      grind
     grind
    |_=>exact hQ _ _ _ _ _ hq hR
   grind
 |cond c x y ihx ihy=>
  intro QA Q st γ a w h ha hQ;rw[Eg]at ha;split at ha
  .next b hb=>
   have hv:a.eval c=.bool b:=by have:=gI h c;rw[hb]at this;exact this
   grind [wp_cond_split]
  grind
 |block id c ih=>
  intro QA Q st γ a w h ha hQ;refine wp_block (ih _ _ st γ a w h ha ?_);intro e s γ' a' w' hq hR;cases e with
  |exit i=>
   simp only[Exit.inBlock];cases hb:Nat.beq i id with
   |true=>
    grind [Nat.eq_of_beq_eq_true]
   |false=>
    rw[if_neg (by rintro rfl;simp at hb)]
    grind
  |_=>exact hQ _ _ _ _ _ hq hR
 |loop c ih=>
  intro QA Q st γ a w h ha hQ;rw[Eg]at ha;split at ha
  .split at ha
   .next sp hsp=>
    split at ha
    .next s0 hs0=>
     split at ha
     .next x0 y0 hx hy=>
      obtain⟨I,μ,h0,hI⟩:=ha;obtain⟨γ0,hR0⟩:=Rel.settles _ h hs0
      let J:sp.v.den->Act->World->Prop:=λy a' w'=>∃γ',Rel w0 M T γ' (joint s0.n sp.c sp.v x0 y) a' w'
      have key:∀(n:Nat)(y:sp.v.den),μ y=n->I y->∀a' w',J y a' w'->∀(b:Frame)(k:List Item)(cs:List Frame),
       ∃e a'' w'',Q e a'' w''/\Arrives P (lone (b.at a' (.code c:: .inLoop c::k)) cs w') b k cs e a'' w'':=by
       intro n
       induction n using Nat.strongRecOn with
       |_ n ihn=>
        intro y hμ hy' a' w' ⟨γ',hR⟩ b k cs;have hbody:=ih _ (Exit.then (λa2 w2=>∃y2,I y2/\μ y2<μ y/\J y2 a2 w2) Q) _ γ' a' w' hR (hI y hy') ?_
        .obtain⟨e,a1,w1,hq,harr⟩:=hbody b (.inLoop c::k) cs;cases e with
         |normal=>
          obtain⟨y2,hI2,hlt,hJ2⟩:=hq;obtain⟨e2,a2,w2,hq2,anF⟩:=ihn (μ y2) (hμ▸hlt) y2 rfl hI2 a1 w1 hJ2 b k cs;exact⟨e2,a2,w2,hq2,.of_steps (Steps.trans harr (.one step_inLoop)) anF⟩
         |exit id=>exact⟨_,a1,w1,hq,.pass (x:=.inLoop c) rfl (λ_ _=>.inl (by simp)) harr⟩
         |goto l=>exact⟨_,a1,w1,hq,.pass (x:=.inLoop c) rfl (λ_ _=>.inl (by simp)) harr⟩
         |ret=>exact⟨_,a1,w1,hq,.pass (x:=.inLoop c) rfl (λ_ _=>.inl (by simp)) harr⟩
         |panic ch=>exact⟨_,a1,w1,hq,.pass (x:=.inLoop c) rfl (λ_ _=>.inl (by simp)) harr⟩
         |outgrown=>exact⟨_,a1,w1,hq,.pass (x:=.inLoop c) rfl (λ_ _=>.inl (by simp)) harr⟩
        .intro e s γ2 a2 w2 hq hR2;cases e with
         |normal=>
          simp only at hq;split at hq
          .next s1 hs1=>
           split at hq
           .next x1 y1 hsn hx1 hy1=>obtain⟨rfl,hI1,hlt⟩:=hq;obtain⟨γ3,hR3⟩:=Rel.settles _ hR2 hs1;have hJ:=hR3.joint hx1 hy1;rw[aq3 hsn]at hJ;exact⟨y1,hI1,hlt,_,hJ⟩
           grind
          grind
         |_=>exact hQ _ _ _ _ _ hq hR2
      intro b k cs;obtain⟨e,a',w',hq,harr⟩:=key _ y0 rfl h0 a w ⟨_,hR0.joint hx hy⟩ b k cs;exact⟨e,a',w',hq,.of_steps (.one step_loop) harr⟩
     grind
    grind
   grind
  grind
 |rangeFunc f ps x y ihx ihy=>intro QA Q st γ a w h ha hQ;exact ha.elim
 |exit id=>intro QA Q st γ a w h ha hQ;exact wp_exit (hQ _ _ _ _ _ ha h)
 |scope c ih=>intro QA Q st γ a w h ha hQ;exact ha.elim
 |label l=>intro QA Q st γ a w h ha hQ;exact ha.elim
 |goto l=>intro QA Q st γ a w h ha hQ;exact ha.elim
 |ret=>intro QA Q st γ a w h ha hQ;exact wp_ret (hQ _ _ _ _ _ ha h)
 |refuse s=>intro QA Q st γ a w h ha hQ;exact ha.elim
def Arg.av:Arg->AV
 |.sv v=>.sv v
 |.kp cs=>.dS cs 0
 |.fn f caps=>.fn f caps
 |.own _ _ _|.ptr _=>.undef
def entry(n:Nat)(args:List Arg):St:=
 {n:=n,tmps:=λt=>match args[t]? with|some v=>v.av|none=>.undef,ah:=λ_=>none}
def JF(st:St)(o:Nat):Bool:=match st.ah o with|some (.arr _ _ _ _)=>true|_=>false
def YE(Θ:gU)(st:St):ResultVar->Option SV
 |.tmp t=>match st.tmps t with|.sv v=>some v|_=>none
 |.cell t ty=>match Θ ty,st.tmps t with
  |some ti,.dU o off=>match st.ah o with
   |some (.var cs)=>jM ti cs off
   |_=>none
  |_,_=>none
def Ip(Θ:gU)(st:St):List ResultVar->Option (List SV)
 |[]=>some []
 |r::rs=>match YE Θ st r,Ip Θ st rs with
  |some v,some vs=>some (v::vs)
  |_,_=>none
def outOf:SV->Bool×List dV
 |.one c=>(false,[.plain c])
 |.agg cs=>(true,cs.map .plain)
def outs:List SV->List (Bool×List dV)
 |[]=>[]
 |v::vs=>outOf (v.kill λ_=>true)::outs vs
def fin(Θ:gU)(rv:List ResultVar)(st:St):Option Out:=
 match Ip Θ (st.freeze (JF st)) rv with
 |some vs=>some ⟨outs vs,none⟩
 |none=>none
theorem JG:∀(k:Nat)(cs:List Cell),jI k (cs.map .plain)=(cs,[])
 |_,[]=>rfl
 |k,c::cs=>by simp only[arB,jI,JG (k+1) cs,dV.take,arU]
theorem agL(k:Nat)(v:SV):rG k (outOf v)=(v,[]):=by
 cases v with
 |one c=>rfl
 |agg cs=>simp only[rG,outOf,JG]
theorem alX(v:Value)(t:TypeId)(b off:Nat)(hv:v=.pointer (some ⟨b,off,none⟩)):Instr.loadAt t v=(do loadVar t (← asAddr v)):=by subst hv;rfl
def F5(tmps:Array Value):ResultVar->Sem Value
 |.tmp t=>pure (tmps.getD t undef)
 |.cell x t=>do loadVar t (← asAddr (tmps.getD x undef))
theorem NK(fn:Func)(tmps:Array Value):results fn tmps=(do let vs ← fn.results.mapM (F5 tmps);pure (if h:vs.size=1 then vs[0]else .tuple vs)):=by congr 1
theorem afk(hΘ:∀t ti,Θ t=some ti->jP P t ti)(h:Rel w0 M T γ st a w){r:ResultVar}{v:SV}(hf:YE Θ st r=some v):
 ∃u,(F5 a.tmps r).run P w=.ok u w/\cO (aj w0 T γ st w) v u:=by
 cases r with
 |tmp t=>
  simp only[YE]at hf;split at hf
  .next e=>cases hf;have:=h.tmps t;rw[e]at this;exact⟨_,rfl,this⟩
  .cases hf
 |cell x t=>
  simp only[YE]at hf;split at hf
  .next ti o off ht hx=>
   split at hf
   .next cs ho=>have hv:=h.tmps x;rw[hx]at hv;obtain⟨b,cs',_,_,hv'⟩:=hv;obtain⟨u,hu,hr⟩:=Jw hΘ h ht (x:=.tmp x) (.inl ⟨o,off,cs,hx,ho,hf⟩);refine⟨u,?_,hr⟩;rw[F5,← alX _ t b off hv'];exact hu
   .cases hf
  .cases hf
theorem Iq(hΘ:∀t ti,Θ t=some ti->jP P t ti)(h:Rel w0 M T γ st a w):∀(rs:List ResultVar)(vs:List SV),Ip Θ st rs=some vs->
 ∃us,(rs.mapM (F5 a.tmps)).run P w=.ok us w/\
  dh (aj w0 T γ st w) vs us
 |[],vs,hf=>by cases hf;exact⟨[],rfl,trivial⟩
 |r::rs,vs,hf=>by
  rw[Ip]at hf;split at hf
  .next v vs' h1 h2=>
   cases hf;obtain⟨u,hu,hr⟩:=afk hΘ h h1;obtain⟨us,hus,hrs⟩:=Iq hΘ h rs vs' h2;refine⟨u::us,?_,hr,hrs⟩
   simp_all
  .cases hf
theorem dh.length{X:V}:∀(cs:List SV)(vs:List Value),dh X cs vs->vs.length=cs.length
 |[],[],_=>rfl
 |_::cs,_::vs,⟨_,h⟩=>by simp[dh.length cs vs h]
 |[],_::_,H|_::_,[],H=>by cases H
theorem dh.get{X:V}:∀(cs:List SV)(vs:List Value)(i:Nat)(c:SV),dh X cs vs->cs[i]? =some c->∃v,vs[i]? =some v/\cO X c v
 |[],_,_,_,_,h=>by simp at h
 |c::cs,v::vs,0,d,⟨h1,_⟩,h=>by grind
 |c::cs,v::vs,i+1,d,⟨_,h2⟩,h=>by
  obtain⟨u,hu,hr⟩:=dh.get cs vs i d h2 (by simpa using h);exact⟨u,by simpa using hu,hr⟩
 |_::_,[],_,_,H,_=>by cases H
theorem lG.length{X:V}:∀(cs:List Arg)(vs:List Value),lG X cs vs->vs.length=cs.length
 |[],[],_=>rfl
 |_::cs,_::vs,⟨_,h⟩=>by simp[lG.length cs vs h]
 |[],_::_,H|_::_,[],H=>by cases H
theorem lG.get{X:V}:∀(cs:List Arg)(vs:List Value)(i:Nat)(c:Arg),lG X cs vs->cs[i]? =some c->∃v,vs[i]? =some v/\lY X c v
 |[],_,_,_,_,h=>by simp at h
 |c::cs,v::vs,0,d,⟨h1,_⟩,h=>by grind
 |c::cs,v::vs,i+1,d,⟨_,h2⟩,h=>by
  obtain⟨u,hu,hr⟩:=lG.get cs vs i d h2 (by simpa using h);exact⟨u,by simpa using hu,hr⟩
 |_::_,[],_,_,H,_=>by cases H
theorem lY.av{X:V}:∀(c:Arg)(v:Value),lY X c v->aP X c.av v
 |.sv _,_,h|.kp _,_,h|.fn _ _,_,h=>h
 |.own _ _ _,_,h|.ptr _,_,h=>h.elim
theorem aji{args:List Arg}{vs:Array Value}{S:Nat->Prop}(n:Nat)(hn:args.length<=n)
 (h:lG ⟨w,w.heap.size,S,λ_=>undef,λ_=>none⟩ args vs.toList):
 Rel w (λ_=>False) ⟨S,λ_=>none,λ_ _ h=>by cases h⟩ (λ_=>undef) (entry n args) {tmps:=vs++Array.replicate (n-vs.size) undef,defers:=[]} w:=by
 have hl:vs.size=args.length:=by simpa using lG.length _ _ h
 refine⟨λ_ h=>h.elim,rfl,?_,rfl,rfl,rfl,ara _,λ_ _ _=>rfl,λt=>?_,(λo x hx=>by cases hx),(λo x b hx=>by cases hx),(λo x p y b hx=>by cases hx),(λo v cs hN=>by cases hN)⟩
 · grind [entry]
 .simp only[entry];cases ha:args[t]? with
  |none=>trivial
  |some v=>
   obtain⟨u,hu,hr⟩:=lG.get _ _ t v h ha;have:(vs++Array.replicate (n-vs.size) undef).getD t undef=u:=by
    have hlt:t<args.length:=by
     grind
    simp_all [ata]
   grind [lY.av]
end Go.Fw
namespace Go.Fw
def codeOf(fn:Func):Code:=match fn.body with|some c=>c|none=>.skip
def YF:List (Nat×TI)->gU
 |[],_=>none
 |(t,x)::r,i=>match Nat.beq i t with|true=>some x|false=>YF r i
def Fz:List (Nat×DZ)->jf
 |[],_=>none
 |(t,x)::r,i=>match Nat.beq i t with|true=>some x|false=>Fz r i
def ahY:List (Nat×Fa)->Nat->Option Fa
 |[],_=>none
 |(t,x)::r,i=>match Nat.beq i t with|true=>some x|false=>ahY r i
def alo:List (Nat×List Pre)->Nat->List Pre
 |[],_=>[]
 |(n,z)::r,i=>match Nat.beq i n with|true=>z|false=>alo r i
def hints(own:List Nat)(l c:List (Nat×Fa))(u:List Nat)(z:List (Nat×List Pre)):Hints:=⟨aO own,ahY l,ahY c,u,alo z⟩
end Go.Fw
namespace Go.Fw
open Go
variable {P:Program} {Θ:gU} {Γ:jf}
inductive kX where
 |one (c:eG)
 |agg (l:List eG)
@[reducible] def kX.den:kX->Type
  |.one c=>c.den
  |.agg l=>jU l
def kX.val:(s:kX)->s.den->SV
 |.one c,x=>.one (c.cell x)
 |.agg l,x=>.agg (fQ l x)
def kX.read:(s:kX)->SV->Option s.den
 |.one c,.one x=>c.read x
 |.agg l,.agg xs=>iT l xs
 |_,_=>none
theorem kX.weak{X:V}(s:kX)(x:SV)(d:s.den)(v:Value)(hr:s.read x=some d)(hv:cO X x v):cO X (s.val d) v:=by
 unfold kX.read at hr;split at hr
 .exact eG.weak _ _ _ _ hr hv
 .obtain⟨vs,e,h⟩:=hv;exact⟨vs,e,BH _ _ _ _ hr h⟩
 .cases hr
@[reducible] def qU:List kX->Type
  |[]=>Unit
  |s::r=>s.den×qU r
def sV:(l:List kX)->qU l->List SV
 |[],_=>[]
 |s::r,x=>s.val x.1::sV r x.2
def LG:(l:List kX)->List SV->Option (qU l)
 |[],[]=>some ()
 |s::r,x::xs=>match s.read x,LG r xs with
  |some a,some b=>some (a,b)
  |_,_=>none
 |_,_=>none
theorem ajj{X:V}:∀(l:List kX)(xs:List SV)(d:qU l)(vs:List Value),LG l xs=some d->dh X xs vs->dh X (sV l d) vs
 |[],[],_,_,_,hv=>hv
 |s::r,x::xs,d,vs,hr,hv=>by
  rw[LG]at hr;split at hr
  .next a b h1 h2=>
   cases hr;cases vs with
   |nil=>cases hv
   |cons v vs=>exact⟨kX.weak s x a v h1 hv.1,ajj r xs b vs h2 hv.2⟩
  .cases hr
 |[],_::_,_,_,hr,_=>by grind [LG]
 |_::_,[],_,_,hr,_=>by grind [LG]
mutual
def CT.pz:(c:CT)->c.den->Prop
 |.int k,(n:Int)=>k.min<=n/\n<=k.max
 |.bool,_=>True
 |.str,(s:Bytes)=>s.length<=maxLen
 |.sl _ r,(l:List r.den)=>l.length<=maxLen/\∀x∈l,r.pz x
def ak.pz:(r:ak)->r.den->Prop
 |.nil,_=>True
 |.cons c r,x=>c.pz x.1/\r.pz x.2
end
mutual
theorem cZ.pz{h:Array Obj}{S:Nat->Prop}:∀(c:CT)(v:Value)(x:c.den),cZ h S c v x->c.pz x
 |.int k,v,(n:Int),H=>by rw[cZ]at H;rw[CT.pz];exact H.2
 |.bool,v,(b:Bool),H=>by rw[CT.pz];trivial
 |.str,v,(s:Bytes),H=>by rw[cZ]at H;rw[CT.pz];exact H.2
 |.sl e r,v,(l:List r.den),H=>by
  rw[cZ]at H;rw[CT.pz];refine⟨H.1,λx hx=>?_⟩;obtain⟨i,hi,rfl⟩:=asZ.1 hx;rcases H.2 with⟨hnil,_⟩|⟨b,off,cap,cs,t,fz,_,_,_,_,hr⟩
  .subst hnil;simp at hi
  .exact aX.pz r _ _ (hr i _ (aq8 hi))
theorem aX.pz{h:Array Obj}{S:Nat->Prop}:∀(r:ak)(vs:List Value)(x:r.den),aX h S r vs x->r.pz x
 |.nil,vs,_,H=>by rw[ak.pz];trivial
 |.cons c r,vs,(x,y),H=>by rw[aX]at H;obtain⟨v,vs',_,h1,h2⟩:=H;rw[ak.pz];exact⟨cZ.pz c v x h1,aX.pz r vs' y h2⟩
end
def eG.pz:(c:eG)->c.den->Prop
 |.int k,(n:Int)=>k.min<=n/\n<=k.max
 |.str,(s:Bytes)=>s.length<=maxLen
 |.sl _ r _,(l:List r.den)=>l.length<=maxLen/\∀x∈l,r.pz x
 |_,_=>True
def Uc:(l:List eG)->jU l->Prop
 |[],_=>True
 |c::r,x=>c.pz x.1/\Uc r x.2
def kX.pz:(s:kX)->s.den->Prop
 |.one c,x=>c.pz x
 |.agg l,x=>Uc l x
theorem eG.Ud{X:V}(c:eG)(x:c.den)(v:Value)(h:aN X (c.cell x) v):c.pz x:=by
 cases c with
 |int k=>exact h.2
 |str=>exact h.2
 |sl e r fr=>
  have h':cZ X.w.heap (X.bP fr) (.sl e r) v x:=h;have:=cZ.pz (.sl e r) v x h';exact this
 |_=>trivial
theorem F6{X:V}:∀(l:List eG)(x:jU l)(vs:List Value),ai X (fQ l x) vs->Uc l x
 |[],_,_,_=>trivial
 |c::r,x,v::vs,h=>⟨eG.Ud c x.1 v h.1,F6 r x.2 vs h.2⟩
 |_::_,_,[],h=>by cases h
inductive fP where
 |v (s:kX)
 |kp (l:List eG)
 |fn (f:FuncId) (l:List (List eG))
@[reducible] def fP.den:fP->Type
  |.v s=>s.den
  |.kp l=>jU l
  |.fn _ l=>xW l
def fP.val:(s:fP)->s.den->Arg
 |.v s,x=>.sv (s.val x)
 |.kp l,x=>.kp (fQ l x)
 |.fn f l,x=>.fn f (FY l x)
def fP.read:(s:fP)->Arg->Option s.den
 |.v s,.sv x=>s.read x
 |.kp l,.kp xs=>iT l xs
 |.fn f l,.fn g xs=>match Nat.beq f g with|true=>Dk l xs|false=>none
 |_,_=>none
theorem fP.weak{X:V}(s:fP)(x:Arg)(d:s.den)(v:Value)(hr:s.read x=some d)(hv:lY X x v):lY X (s.val d) v:=by
 unfold fP.read at hr;split at hr
 .exact kX.weak _ _ _ _ hr hv
 .obtain⟨b,e,hk⟩:=hv;exact⟨b,e,adl hr hk⟩
 .split at hr
  .next hb=>obtain⟨us,e,hk⟩:=hv;rw[fP.val,aq3 hb];exact⟨us,e,QV _ _ _ _ hr hk⟩
  .cases hr
 .cases hr
@[reducible] def kD:List fP->Type
  |[]=>Unit
  |s::r=>s.den×kD r
def qH:(l:List fP)->kD l->List Arg
 |[],_=>[]
 |s::r,x=>s.val x.1::qH r x.2
def Eh:(l:List fP)->List Arg->Option (kD l)
 |[],[]=>some ()
 |s::r,x::xs=>match s.read x,Eh r xs with
  |some a,some b=>some (a,b)
  |_,_=>none
 |_,_=>none
theorem afl{X:V}:∀(l:List fP)(xs:List Arg)(d:kD l)(vs:List Value),Eh l xs=some d->lG X xs vs->lG X (qH l d) vs
 |[],[],_,_,_,hv=>hv
 |s::r,x::xs,d,vs,hr,hv=>by
  rw[Eh]at hr;split at hr
  .next a b h1 h2=>
   cases hr;cases vs with
   |nil=>cases hv
   |cons v vs=>exact⟨fP.weak s x a v h1 hv.1,afl r xs b vs h2 hv.2⟩
  .cases hr
 |[],_::_,_,_,hr,_=>by grind [Eh]
 |_::_,[],_,_,hr,_=>by grind [Eh]
theorem O9:∀(l:List fP)(d:kD l),(qH l d).length=l.length
 |[],_=>rfl
 |_::r,d=>by simp[qH,O9 r d.2]
def abw:(l:List (List eG))->xW l->Prop
 |[],_=>True
 |c::r,x=>Uc c x.1/\abw r x.2
def fP.pz:(s:fP)->s.den->Prop
 |.v s,x=>s.pz x
 |.kp l,x=>Uc l x
 |.fn _ l,x=>abw l x
def GX:(l:List fP)->kD l->Prop
 |[],_=>True
 |s::r,x=>s.pz x.1/\GX r x.2
theorem Vl{X:V}:∀(l:List (List eG))(x:xW l)(us:List Value),dQ X (FY l x) us->abw l x
 |[],_,_,_=>trivial
 |c::r,x,u::us,h=>by
  obtain⟨⟨b,hu,arr,t,fz,hf,hh,hc⟩,h2⟩:=h;exact⟨F6 c x.1 _ hc,Vl r x.2 us h2⟩
 |_::_,_,[],h=>by cases h
theorem zB{X:V}:∀(l:List fP)(x:kD l)(vs:List Value),lG X (qH l x) vs->GX l x
 |[],_,_,_=>trivial
 |.v (.one c)::r,x,v::vs,h=>⟨eG.Ud c x.1 v h.1,zB r x.2 vs h.2⟩
 |.v (.agg l)::r,x,v::vs,h=>by
  obtain⟨ws,hv,hc⟩:=h.1;exact⟨F6 l x.1 _ hc,zB r x.2 vs h.2⟩
 |.kp l::r,x,v::vs,h=>by
  obtain⟨b,hu,arr,t,fz,hf,hh,hc⟩:=h.1;exact⟨F6 l x.1 _ hc,zB r x.2 vs h.2⟩
 |.fn f l::r,x,v::vs,h=>by
  obtain⟨us,hv,hk⟩:=h.1;exact⟨Vl l x.1 _ hk,zB r x.2 vs h.2⟩
 |_::_,_,[],h=>by cases h
def FI(sh:List fP)(F:kD sh->Prop×Out):O5:=λargs=>
 match Eh sh args with
 |some x=>some (F x)
 |none=>none
def AO:List SV->List (Bool×List dV)
 |[]=>[]
 |v::vs=>outOf v::AO vs
theorem LH:∀(k:Nat)(vs:List SV),gG k (AO vs)=(vs,[])
 |_,[]=>rfl
 |k,v::vs=>by simp only[AO,gG,agL,LH,arU]
def YG(Θ:gU)(rv:List ResultVar)(bZ:List kX)(K:qU bZ->Prop)(e:Exit)(st:St):Prop:=
 match e with
 |.normal|.ret=>match Ip Θ (st.freeze (JF st)) rv with
  |some vs=>match LG bZ (vs.map (SV.kill λ_=>true))with
   |some d=>K d
   |none=>False
  |none=>False
 |_=>False
theorem alY{G:iQ}(hE:EnvB P G Θ Γ)(hm:P.follows .mixedOrders=true){f:FuncId}{fn:Func}{c:Code}(hf:P.funcs[f]? =some fn)(hb:fn.body=some c)(H:Hints){con:O5}{bZ:List kX}
 (hwalk:∀args p out,con args=some (p,out)->p->Nat.ble args.length fn.ntmps=true/\∃d:qU bZ,out=⟨AO (sV bZ d),none⟩/\Eg Θ Γ H c (YG Θ fn.results.toList bZ λy=>y=d) (entry fn.ntmps args)):ja P G f con:=by
 intro args p out k S vs w hcon hp hG hrep;obtain⟨hn,d,hout,hw⟩:=hwalk args p out hcon hp;subst hout;have hn':args.length<=fn.ntmps:=by simp_all
 refine calls_of_wp hf hb (QY ⟨hE,hG,λb hb=>hb.elim⟩ hm H c _ _ _ _ _ _ (aji (S:=S) fn.ntmps hn' hrep) hw ?_);have hret:∀s γ' a' w',YG Θ fn.results.toList bZ (λy=>y=d) .ret s->Rel w (λ_=>False) ⟨S,λ_=>none,λ_ _ h=>by cases h⟩ γ' s a' w'->bodyPost P fn (λe w'=>∃v vals,e=.returned v/\w'.os=w.os/\w'.tape=w.tape/\w'.output=w.output/\w.heap.size<=w'.heap.size/\
  (∀b,b<w.heap.size->w'.heap[b]? =w.heap[b]?)/\
  aP ⟨w',w.heap.size,S,vals,look (Out.take k ⟨AO (sV bZ d),none⟩).2⟩ (Out.take k ⟨AO (sV bZ d),none⟩).1 v/\
  (∀o x,look (Out.take k ⟨AO (sV bZ d),none⟩).2 o=some x->bC ⟨w',w.heap.size,S,vals,look (Out.take k ⟨AO (sV bZ d),none⟩).2⟩ o x/\∀b,blk (vals o)=some b->w.heap.size<=b/\b<w'.heap.size)/\
  (∀o x q y b,look (Out.take k ⟨AO (sV bZ d),none⟩).2 o=some x->look (Out.take k ⟨AO (sV bZ d),none⟩).2 q=some y->o≠q->blk (vals o)=some b->blk (vals q)≠some b)) .ret a' w':=by
  intro s γ' a' w' he hR;refine⟨hR.defers,?_⟩;simp only[YG]at he;split at he
  .next svs hvs=>
   split at he
   .next y hy=>
    subst he;have hRf:=hR.freeze (JF s);obtain⟨us,hus,hrs⟩:=Iq hE.types hRf _ _ hvs;have hk0:=dh.kill (λ_=>true) hRf svs us hrs;have hk:=ajj bZ _ y us hy hk0;have htake:Out.take k ⟨AO (sV bZ y),none⟩=(match sV bZ y with|[v]=>.sv v|l=>.kR l,[]):=by
     grind [Out.take,LH]
    have hmap:(fn.results.mapM (F5 a'.tmps)).run P w'=.ok us.toArray w':=by
     simp_all [atd]
    refine⟨if h:us.toArray.size=1 then us.toArray[0]else .tuple us.toArray,?_,_,γ',rfl,hR.os,hR.tape,hR.output,hR.grow,λb hb=>hR.kept b hb (λh=>h),?_,?_,?_⟩
    .rw[NK,arE,hmap]
     simp_all
    .rw[htake];have hl:=dh.length _ _ hk
     match hm:sV bZ y,us,hk,hl with
     |[v],[u],hk,_=>exact hk.1
     |[],[],hk,_=>exact⟨_,by simp,hk⟩
     |v::v2::r,u::u2::us,hk,hl=>exact⟨_,by simp,hk⟩
     |[],_::_,hk,h4|_::_,[],hk,h4|[_],_::_::_,hk,h4|_::_::_,[_],hk,h4=>simp at h4
    .intro o x hx;rw[htake]at hx;cases hx
    .intro o x q y b hx;rw[htake]at hx;cases hx
   grind
  grind
 intro e s γ' a' w' he hR;cases e with
 |normal=>exact hret s γ' a' w' he hR
 |ret=>grind
 |_=>exact he.elim
def nV(sh:List fP)(bZ:List kX)(F:kD sh->Prop×qU bZ):O5:=FI sh λx=>((F x).1,⟨AO (sV bZ (F x).2),none⟩)
theorem abx{G:iQ}(hE:EnvB P G Θ Γ)(hm:P.follows .mixedOrders=true){f:FuncId}{fn:Func}{c:Code}(hf:P.funcs[f]? =some fn)(hb:fn.body=some c)(H:Hints)
 {sh:List fP} {bZ:List kX} {F:kD sh->Prop×qU bZ} (hn:Nat.ble sh.length fn.ntmps=true)
 (hwalk:∀x,GX sh x->(F x).1->Eg Θ Γ H c (YG Θ fn.results.toList bZ λy=>y=(F x).2) (entry fn.ntmps (qH sh x))):ja P G f (nV sh bZ F):=by
 have base:∀x,GX sh x->ja P G f (λargs=>@ite _ (args=qH sh x) (Classical.propDecidable _) (some ((F x).1,⟨AO (sV bZ (F x).2),none⟩)) none):=by
  intro x hin;refine alY (bZ:=bZ) hE hm hf hb H ?_
  grind [O9]
 intro args p out k S vs w hcon hp hG hrep;unfold nV FI at hcon;split at hcon
 .next x hx=>have hv:=afl sh args x vs.toList hx hrep;exact base x (zB sh x _ hv) (qH sh x) p out k S vs w (by grind) hp hG hv
 .cases hcon
inductive RC where
 |c (s:eG)
 |own (e:TypeId) (r:ak) (fr:Bool)
@[reducible] def RC.den:RC->Type
  |.c s=>s.den
  |.own _ r _=>List r.den
@[reducible] def YH:List RC->Type
  |[]=>Unit
  |c::r=>c.den×YH r
def RC.ahZ:(c:RC)->c.den->dV
 |.c s,x=>.plain (s.cell x)
 |.own e r fr,l=>.own e r l fr
def aby:(l:List RC)->YH l->List dV
 |[],_=>[]
 |c::r,x=>c.ahZ x.1::aby r x.2
inductive lq where
 |one (c:RC)
 |agg (l:List RC)
@[reducible] def lq.den:lq->Type
  |.one c=>c.den
  |.agg l=>YH l
@[reducible] def yD:List lq->Type
  |[]=>Unit
  |s::r=>s.den×yD r
def lq.out:(s:lq)->s.den->Bool×List dV
 |.one c,x=>(false,[c.ahZ x])
 |.agg l,x=>(true,aby l x)
def gX:(l:List lq)->yD l->List (Bool×List dV)
 |[],_=>[]
 |s::r,x=>s.out x.1::gX r x.2
def RC.name:RC->Cell->Option Nat
 |.own _ _ _,.ref o=>some o
 |_,_=>none
def abz:List RC->List Cell->List (Option Nat)
 |c::r,x::xs=>c.name x::abz r xs
 |_,_=>[]
def lq.names:lq->SV->List (Option Nat)
 |.one c,.one x=>[c.name x]
 |.agg l,.agg xs=>abz l xs
 |_,_=>[]
def xX:List lq->List SV->List (Option Nat)
 |s::r,x::xs=>s.names x++xX r xs
 |_,_=>[]
def RC.read(st:St):(c:RC)->Cell->Option c.den
 |.c s,x=>match x.refs with|[]=>s.read x|_=>none
 |.own e r fr,.ref o=>match st.ah o with
  |some (.arr f s l g)=>match Nat.beq e f&&Io fr g with
   |true=>if h:s.beq r=true then some (qw h l)else none
   |false=>none
  |_=>none
 |.own _ r _,.nil=>match Nat.ble 1 r.len with|true=>some []|false=>none
 |_,_=>none
def LJ(st:St):(l:List RC)->List Cell->Option (YH l)
 |[],[]=>some ()
 |c::r,x::xs=>match c.read st x,LJ st r xs with
  |some a,some b=>some (a,b)
  |_,_=>none
 |_,_=>none
def lq.read(st:St):(s:lq)->SV->Option s.den
 |.one c,.one x=>c.read st x
 |.agg l,.agg xs=>LJ st l xs
 |_,_=>none
def zC(st:St):(l:List lq)->List SV->Option (yD l)
 |[],[]=>some ()
 |s::r,x::xs=>match s.read st x,zC st r xs with
  |some a,some b=>some (a,b)
  |_,_=>none
 |_,_=>none
inductive gV where
 |p (s:fP)
 |own (e:TypeId) (r:ak)
 |ptr (l:List eG)
@[reducible] def gV.den:gV->Type
  |.p s=>s.den
  |.own _ r=>List r.den
  |.ptr l=>jU l
def gV.mode:gV->Mode
 |.p _=>.val
 |.own _ _=>.own
 |.ptr _=>.ptr
def gV.val:(s:gV)->s.den->Arg
 |.p s,x=>s.val x
 |.own e r,l=>.own e r l
 |.ptr l,x=>.ptr (fQ l x)
def gV.read:(s:gV)->Arg->Option s.den
 |.p s,x=>s.read x
 |.own e r,.own f s l=>match Nat.beq e f with
  |true=>if h:s.beq r=true then some (qw h l)else none
  |false=>none
 |.ptr l,.ptr cs=>iT l cs
 |_,_=>none
@[reducible] def lS:List gV->Type
  |[]=>Unit
  |s::r=>s.den×lS r
def sW:(l:List gV)->lS l->List Arg
 |[],_=>[]
 |s::r,x=>s.val x.1::sW r x.2
def jY:(l:List gV)->List Arg->Option (lS l)
 |[],[]=>some ()
 |s::r,x::xs=>match s.read x,jY r xs with
  |some a,some b=>some (a,b)
  |_,_=>none
 |_,_=>none
@[reducible] def vY:List gV->Type
  |[]=>Unit
  |.ptr l::r=>jU l×vY r
  |.p _::r|.own _ _::r=>vY r
def jA:(l:List gV)->vY l->List Eff
 |[],_=>[]
 |.ptr l::r,x=>.var (fQ l x.1)::jA r x.2
 |.p _::r,x|.own _ _::r,x=>.lose::jA r x
def F7(st:St):(i:Nat)->(l:List gV)->Option (vY l)
 |_,[]=>some ()
 |i,.ptr l::r=>match st.ah (i*64+48),F7 st (i+1) r with
  |some (.var cs),some b=>match cs.flatMap Cell.refs,iT l cs with
   |[],some a=>some (a,b)
   |_,_=>none
  |_,_=>none
 |i,.p _::r|i,.own _ _::r=>F7 st (i+1) r
def Arg.avX(i:Nat):Arg->AV
 |.own _ _ _=>.sv (.one (.ref (i*64+49)))
 |.ptr _=>.dU (i*64+48) 0
 |a=>a.av
def BJ(n:Nat)(args:List Arg):St:=
 {n:=n,tmps:=λt=>match args[t]? with|some v=>v.avX t|none=>.undef,ah:=eF args}
def YI(st:St)(W:List (Option Nat))(o:Nat):Bool:=JF st o&&!(Qy o W)
def aey(Θ:gU)(rv:List ResultVar)(sh:List gV)(bZ:List lq)(K:yD bZ×vY sh->Prop)(e:Exit)(st:St):Prop:=
 match e with
 |.normal|.ret=>match Ip Θ st rv with
  |some svs=>match Ip Θ (st.freeze (YI st (xX bZ svs))) rv with
   |some vs=>match uZ (xX bZ vs),zC (st.freeze (YI st (xX bZ svs))) bZ vs,F7 (st.freeze (YI st (xX bZ svs))) 0 sh with
    |true,some d,some b=>K (d,b)
    |_,_,_=>False
   |none=>False
  |none=>False
 |_=>False
def aeN(sh:List gV)(bZ:List lq)(F:lS sh->Prop×(yD bZ×vY sh->Prop)):Qs:=λargs=>
 match jY sh args with
 |some x=>some ((F x).1,⟨yD bZ×vY sh,(F x).2,λt=>⟨gX bZ t.1,none⟩,λt=>jA sh t.2⟩)
 |none=>none
def afn(sh:List gV):List Mode:=sh.map gV.mode
end Go.Fw
namespace Go.Fw
open Go
variable {P:Program} {w0:World} {M:Nat->Prop} {T:Ext} {γ γ':Nat->Value} {st:St} {a:Act} {w w':World} {Θ:gU} {Γ:jf}
def abA(args:List Arg)(γ:Nat->Value)(o:Nat):Option Value:=match eF args o with|some (.var _)=>some (γ o)|_=>none
theorem akh{args:List Arg}{o:Nat}{cs:List Cell}(h:eF args o=some (.var cs)):o%64=48:=by
 unfold eF at h;split at h
 .split at h<;>cases h
 · grind [Nat.eq_of_beq_eq_true]
 .cases h
def QZ(args:List Arg)(γ:Nat->Value)(S:Nat->Prop):Ext where
 S:=λb=>S b\/wP (eF args) γ b
 N:=abA args γ
 n48:=by
  intro p v h;unfold abA at h;split at h
  .next cs hc=>exact akh hc
  .cases h
theorem wO.get{X:V}:∀(as:List Arg)(vs:List Value)(i:Nat),wO X i as vs->as.length=vs.length/\∀(j:Nat)(b:Arg),as[j]? =some b->∃v,vs[j]? =some v/\Ih X (i+j) b v
 |[],[],_,_=>⟨rfl,λj b h=>by simp at h⟩
 |x::as,v::vs,i,⟨h1,h2⟩=>by
  obtain⟨g1,g2⟩:=wO.get as vs (i+1) h2;refine⟨by simp[g1],λj b hb=>?_⟩;cases j with
  |zero=>grind
  |succ j=>
   grind
 |[],_::_,_,H|_::_,[],_,H=>by cases H
theorem Ih.av{X:V}(i:Nat):∀(c:Arg)(v:Value),Ih X i c v->aP X (c.avX i) v
 |.own _ _ _,_,h=>h
 |.ptr _,_,h=>h
 |.sv _,_,h|.kp _,_,h|.fn _ _,_,h=>h
theorem YJ{args:List Arg}{vs:Array Value}{S:Nat->Prop}(n:Nat)(hn:args.length<=n)
 (h:wO ⟨w,w.heap.size,S,γ,eF args⟩ 0 args vs.toList)
 (ho:∀o x,eF args o=some x->bC ⟨w,w.heap.size,S,γ,eF args⟩ o x/\∀b,blk (γ o)=some b->b<w.heap.size)
 (hs:∀o x q y b,eF args o=some x->eF args q=some y->o≠q->blk (γ o)=some b->blk (γ q)≠some b):
 Rel w (wP (eF args) γ) (QZ args γ S) γ (BJ n args) {tmps:=vs++Array.replicate (n-vs.size) undef,defers:=[]} w:=by
 obtain⟨hl0,hget⟩:=wO.get _ _ 0 h;have hl:vs.size=args.length:=by grind
 have le:V.le ⟨w,w.heap.size,S,γ,eF args⟩ ⟨w,w.heap.size,(QZ args γ S).S,γ,eF args⟩:=
  ⟨ara _,λb hb=>⟨⟨hb.1,λhlt=>.inl (hb.2.1 hlt),hb.2.2⟩,rfl⟩,λo cs hx=>⟨⟨cs,hx⟩,rfl⟩,λo e r l fr hx=>⟨⟨l,fr,hx⟩,rfl⟩⟩
 refine⟨λb hb=>.inr hb,rfl,?_,rfl,rfl,rfl,ara _,λ_ _ _=>rfl,λt=>?_,λo x hx=>bC.mono le o x (λ_ _=>rfl) rfl (ho o x hx).1,λo x b hx hb=>⟨(ho o x hx).2 b hb,.inr ⟨o,x,hx,hb⟩⟩,λo x p y b hx hy hop hb=>hs o x p y b hx hy hop hb,λo v cs hN hx=>?_⟩
 · grind [BJ]
 .simp only[BJ];cases ha:args[t]? with
  |none=>trivial
  |some v=>
   obtain⟨u,hu,hr⟩:=hget t v ha;have:(vs++Array.replicate (n-vs.size) undef).getD t undef=u:=by
    have hlt:t<args.length:=by
     grind
    have hlt':t<vs.size:=by omega
    rw[as7,ata hlt']
    grind
   grind [aP.mono,Ih.av]
 .have hN':abA args γ o=some v:=hN
  grind [abA]
def AW(a a':Arg):Prop:=
 (∃e r l,a=.own e r l/\a'=.own e r l)\/(∃cs cs',a=.ptr cs/\a'=.ptr cs'/\∀(X:V) vs,ai X cs vs->ai X cs' vs)\/
 ((∀(X:V) v,aP X a.av v->aP X a'.av v)/\(∀i,a.avX i=a.av)/\(∀i,a'.avX i=a'.av)/\(∀e r l,a≠ .own e r l)/\(∀cs,a≠ .ptr cs)/\(∀e r l,a'≠ .own e r l)/\(∀cs,a'≠ .ptr cs))
theorem fP.ah0{s:fP}{x:Arg}{d:s.den}(h:s.read x=some d):AW x (s.val d):=by
 refine .inr (.inr ⟨λX v hv=>?_,?_⟩)
 .have hx:lY X x v:=by
   cases x with
   |sv _|kp _|fn _ _=>exact hv
   |own _ _ _|ptr _=>cases s<;>simp[fP.read]at h
  grind [lY.av,fP.weak]
 .cases x<;>cases s<;>first
   |(simp[fP.read]at h;done)
   |exact⟨λ_=>rfl,λ_=>rfl,(λ_ _ _ e=>by cases e),(λ_ e=>by cases e),(λ_ _ _ e=>by cases e),(λ_ e=>by cases e)⟩
theorem gV.ah0{s:gV}{x:Arg}{d:s.den}(h:s.read x=some d):AW x (s.val d):=by
 unfold gV.read at h;split at h
 .exact fP.ah0 h
 .next e r f s l=>
  split at h
  .next hb=>
   split at h
   .next hs=>cases h;have he:=aq3 hb;subst he;have hsr:=ak.eq_of_beq s r hs;subst hsr;exact .inl ⟨e,s,l,rfl,rfl⟩
   .cases h
  .cases h
 .next l cs=>exact .inr (.inl ⟨cs,_,rfl,rfl,λX vs hc=>BH _ _ _ _ h hc⟩)
 .cases h
theorem GY:∀{l:List gV}{xs:List Arg}{d:lS l},jY l xs=some d->(sW l d).length=xs.length/\∀(i:Nat)(a:Arg),xs[i]? =some a->∃a',(sW l d)[i]? =some a'/\AW a a'
 |[],[],_,_=>⟨rfl,λi a h=>by simp at h⟩
 |s::r,x::xs,d,h=>by
  rw[jY]at h;split at h
  .next a b h1 h2=>
   cases h;obtain⟨g1,g2⟩:=GY h2;refine⟨by simp[sW,g1],λi c hc=>?_⟩;cases i with
   |zero=>simp at hc;subst hc;exact⟨_,rfl,gV.ah0 h1⟩
   |succ i=>obtain⟨c',k1,k2⟩:=g2 i c (by simpa using hc);exact⟨c',by simpa[sW]using k1,k2⟩
  .cases h
 |[],_::_,_,h=>by simp[jY]at h
 |_::_,[],_,h=>by simp[jY]at h
theorem adp{args:List Arg}{o:Nat}(h:∀b,args[o / 64]? =some b->(∀e r l,b≠ .own e r l)/\∀cs,b≠ .ptr cs):eF args o=none:=by
 unfold eF;split
 · grind
 · grind
 .rfl
theorem Pe{sh:List gV}{args:List Arg}{x:lS sh}(h:jY sh args=some x)(n:Nat):Covers (BJ n (sW sh x)) (BJ n args):=by
 obtain⟨hl,hget⟩:=GY h;refine⟨rfl,λt X v hv=>?_,λo=>?_⟩
 .simp only[BJ]at hv ⊢;cases ha:args[t]? with
  |none=>
   grind
  |some b=>
   obtain⟨b',hb',hw⟩:=hget t b ha;rw[ha]at hv;rw[hb'];rcases hw with⟨e,r,l,rfl,rfl⟩|⟨cs,cs',rfl,rfl,_⟩|⟨hw,e1,e2,_⟩
   .exact hv
   .exact hv
   grind
 .show(eF (sW sh x) o=none/\eF args o=none)\/∃y y',eF args o=some y/\eF (sW sh x) o=some y'/\E8 y y';cases ha:args[o / 64]? with
  |none=>
   grind [adp]
  |some b=>
   obtain⟨b',hb',hw⟩:=hget _ b ha;rcases hw with⟨e,r,l,rfl,rfl⟩|⟨cs,cs',rfl,rfl,hc⟩|⟨_,_,_,n1,n2,n3,n4⟩
   .unfold eF;rw[ha,hb'];cases hm:Nat.beq (o%64) 49 with
    |true=>exact .inr ⟨_,_,rfl,rfl,.inr ⟨e,r,l,false,false,rfl,rfl,id⟩⟩
    |false=>grind
   .unfold eF;rw[ha,hb'];cases hm:Nat.beq (o%64) 48 with
    |true=>exact .inr ⟨_,_,rfl,rfl,.inl ⟨cs,cs',rfl,rfl,hc⟩⟩
    |false=>grind
   grind [adp]
theorem Vm(a b:List (Nat×aB))(p:Nat):look (a++b) p=match look b p with|some y=>some y|none=>look a p:=by
 induction a with
 |nil=>grind [look]
 |cons x a ih=>
  grind [look]
theorem vw:∀(cs:List dV)(k p:Nat)(x:aB),look (jI k cs).2 p=some x↔∃i e r l fr,p=k+i/\cs[i]? =some (.own e r l fr)/\x=.arr e r l fr
 |[],k,p,x=>by simp[jI,look]
 |c::cs,k,p,x=>by
  rw[jI,Vm];have ih:=vw cs (k+1) p x;constructor
  .intro h;split at h
   .next y hy=>cases h;obtain⟨i,e,r,l,fr,h1,h2,h3⟩:=(vw cs (k+1) p x).1 hy;exact⟨i+1,e,r,l,fr,by omega,by simpa using h2,h3⟩
   .next hn=>
    cases c with
    |plain c=>simp[dV.take,look]at h
    |own e r l fr=>
     simp only[dV.take,look]at h;split at h
     .next hb=>cases h;exact⟨0,e,r,l,fr,by simp_all,rfl,rfl⟩
     .cases h
  .rintro⟨i,e,r,l,fr,h1,h2,rfl⟩;cases i with
   |succ i=>
    grind
   |zero=>
    have hn:look (jI (k+1) cs).2 p=none:=by
     cases hl:look (jI (k+1) cs).2 p with
     |none=>rfl
     |some y=>obtain⟨i,_,_,_,_,g1,_⟩:=(vw cs (k+1) p y).1 hl;omega
    simp_all [dV.take,look]
def GZ(rs:List (Bool×List dV)):List dV:=rs.flatMap (·.2)
theorem agM(k:Nat)(x:Bool×List dV):(rG k x).2=(jI k x.2).2:=by
 unfold rG;split
 · grind
 · grind
 grind
theorem xE:∀(rs:List (Bool×List dV))(k p:Nat)(x:aB),look (gG k rs).2 p=some x↔∃i e r l fr,p=k+i/\(GZ rs)[i]? =some (.own e r l fr)/\x=.arr e r l fr
 |[],k,p,x=>by simp[gG,look,GZ]
 |y::rs,k,p,x=>by
  rw[gG,Vm,agM];have anG:GZ (y::rs)=y.2++GZ rs:=rfl;constructor
  .intro h;split at h
   .next z hz=>
    cases h;obtain⟨i,e,r,l,fr,h1,h2,h3⟩:=(xE rs (k+y.2.length) p x).1 hz;refine⟨y.2.length+i,e,r,l,fr,by omega,?_,h3⟩
    grind
   .obtain⟨i,e,r,l,fr,h1,h2,h3⟩:=(vw y.2 k p x).1 h;refine⟨i,e,r,l,fr,h1,?_,h3⟩
    grind
  .rintro⟨i,e,r,l,fr,h1,h2,rfl⟩;rw[anG]at h2;rcases ark i y.2.length with hlt|hge
   .rw[asg hlt]at h2;have hn:look (gG (k+y.2.length) rs).2 p=none:=by
     cases hl:look (gG (k+y.2.length) rs).2 p with
     |none=>rfl
     |some z=>obtain⟨j,_,_,_,_,g1,_⟩:=(xE rs (k+y.2.length) p z).1 hl;omega
    rw[hn];exact(vw y.2 k p _).2 ⟨i,e,r,l,fr,h1,h2,rfl⟩
   .rw[asD hge]at h2;have:=(xE rs (k+y.2.length) p (.arr e r l fr)).2 ⟨i-y.2.length,e,r,l,fr,by omega,h2,rfl⟩;rw[this]
end Go.Fw
namespace Go.Fw
open Go
set_option linter.unusedVariables false
variable {P:Program} {w0:World} {M:Nat->Prop} {T:Ext} {γ γ':Nat->Value} {st:St} {a:Act} {w w':World} {Θ:gU} {Γ:jf}
def RF(Y:V)(c:dV)(v:Value)(n:Option Nat):Prop:=
 match c with
 |.plain x=>aN Y x v/\x.refs=[]
 |.own e r l fr=>0<r.len/\((∃o g,n=some o/\Y.ah o=some (.arr e r l g)/\Io fr g=true/\v=Y.γ o/\v.oneCell'=true)\/(l=[]/\v=.slice none 0 0))
def BK(Y:V):List dV->List Value->List (Option Nat)->Prop
 |[],[],[]=>True
 |c::cs,v::vs,n::ns=>RF Y c v n/\BK Y cs vs ns
 |_,_,_=>False
theorem BK.append{Y:V}:∀(cs:List dV)(vs:List Value)(ns:List (Option Nat))(ds:List dV)(us:List Value)(ms:List (Option Nat)),BK Y cs vs ns->BK Y ds us ms->BK Y (cs++ds) (vs++us) (ns++ms)
 |[],[],[],_,_,_,_,h=>h
 |_::cs,_::vs,_::ns,ds,us,ms,⟨h1,h2⟩,h=>⟨h1,BK.append cs vs ns ds us ms h2 h⟩
theorem BK.length{Y:V}:∀(cs:List dV)(vs:List Value)(ns:List (Option Nat)),BK Y cs vs ns->cs.length=vs.length
 |[],[],[],_=>rfl
 |_::cs,_::vs,_::ns,⟨_,h2⟩=>by simp[BK.length cs vs ns h2]
theorem BK.get{Y:V}:∀(cs:List dV)(vs:List Value)(ns:List (Option Nat))(i:Nat)(c:dV),BK Y cs vs ns->cs[i]? =some c->∃v n,vs[i]? =some v/\ns[i]? =some n/\RF Y c v n
 |[],[],[],i,c,_,h=>by simp at h
 |x::cs,v::vs,n::ns,0,c,⟨h1,_⟩,h=>by grind
 |x::cs,v::vs,n::ns,i+1,c,⟨_,h2⟩,h=>by obtain⟨u,m,g1,g2,g3⟩:=BK.get cs vs ns i c h2 (by simpa using h);exact⟨u,m,by simpa using g1,by simpa using g2,g3⟩
theorem eG.adq(c:eG)(x:Cell)(d:c.den)(h:c.read x=some d)(hx:x.refs=[]):(c.cell d).refs=[]:=by cases c<;>cases x<;>first|rfl|(simp[eG.read]at h;done)|(cases hx)
theorem RC.ahd{Y:V}(hst:Y.ah=st.ah)(hpos:∀o e r l g,st.ah o=some (.arr e r l g)->0<r.len):∀(c:RC)(x:Cell)(d:c.den)(v:Value),c.read st x=some d->aN Y x v->RF Y (c.ahZ d) v (c.name x):=by
 intro c x d v hr hv;cases c with
 |c s=>
  rw[RC.read]at hr;split at hr
  .next hx=>exact⟨eG.weak s x d v hr hv,eG.adq s x d hr hx⟩
  .cases hr
 |own e r fr=>
  cases x with
  |ref o=>
   simp only[RC.read]at hr;split at hr
   .next f s l g ho=>
    split at hr
    .next hb=>
     split at hr
     .next hs=>cases hr;rw[aq5]at hb;have he:=aq3 hb.1;subst he;have hsr:=ak.eq_of_beq s r hs;subst hsr;exact⟨hpos _ _ _ _ _ ho,.inl ⟨o,g,rfl,by rw[hst];exact ho,hb.2,hv.2.1,hv.2.2⟩⟩
     .cases hr
    .cases hr
   .cases hr
  |nil=>
   simp only[RC.read]at hr;split at hr
   .next hb=>cases hr;exact⟨ari Nat.zero_lt_one (by simp_all),.inr ⟨rfl,hv⟩⟩
   .cases hr
  |_=>simp[RC.read]at hr
theorem YK{Y:V}(hst:Y.ah=st.ah)(hpos:∀o e r l g,st.ah o=some (.arr e r l g)->0<r.len):∀(l:List RC)(xs:List Cell)(d:YH l)(vs:List Value),LJ st l xs=some d->ai Y xs vs->BK Y (aby l d) vs (abz l xs)
 |[],[],_,[],_,_=>trivial
 |c::r,x::xs,d,v::vs,h,⟨h1,h2⟩=>by
  rw[LJ]at h;split at h
  .next a b g1 g2=>cases h;exact⟨RC.ahd hst hpos c x a v g1 h1,YK hst hpos r xs b vs g2 h2⟩
  .cases h
 |[],_::_,_,_,h,_=>by simp[LJ]at h
 |_::_,[],_,_,h,_=>by simp[LJ]at h
theorem lq.afo{Y:V}(hst:Y.ah=st.ah)(hpos:∀o e r l g,st.ah o=some (.arr e r l g)->0<r.len):∀(s:lq)(x:SV)(d:s.den)(v:Value),s.read st x=some d->cO Y x v->BK Y (s.out d).2 v.cells.toList (s.names x)
 |.one c,.one x,d,v,h,hv=>by
  rw[D8 v (aN.one x v hv)];exact⟨RC.ahd hst hpos c x d v h hv,trivial⟩
 |.agg l,.agg xs,d,v,h,⟨vs,hv,hc⟩=>by
  rw[hv];exact YK hst hpos l xs d _ h hc
 |.one _,.agg _,_,_,h,_|.agg _,.one _,_,_,h,_=>by simp[lq.read]at h
theorem YL{Y:V}(hst:Y.ah=st.ah)(hpos:∀o e r l g,st.ah o=some (.arr e r l g)->0<r.len):∀(l:List lq)(xs:List SV)(d:yD l)(vs:List Value),zC st l xs=some d->dh Y xs vs->
 BK Y (GZ (gX l d)) (vs.flatMap λv=>v.cells.toList) (xX l xs)
 |[],[],_,[],_,_=>trivial
 |s::r,x::xs,d,v::vs,h,⟨h1,h2⟩=>by
  rw[zC]at h;split at h
  .next a b g1 g2=>cases h;exact BK.append _ _ _ _ _ _ (lq.afo hst hpos s x a v g1 h1) (YL hst hpos r xs b vs g2 h2)
  .cases h
 |[],_::_,_,_,h,_=>by simp[zC]at h
 |_::_,[],_,_,h,_=>by simp[zC]at h
def Go1(Z:V)(k:Nat)(c:dV)(v:Value):Prop:=aN Z (c.take k).1 v
def EP(Z:V):Nat->List dV->List Value->Prop
 |_,[],[]=>True
 |k,c::cs,v::vs=>Go1 Z k c v/\EP Z (k+1) cs vs
 |_,_,_=>False
theorem EP.of{Z:V}:∀(cs:List dV)(vs:List Value)(k:Nat),cs.length=vs.length->(∀i c v,cs[i]? =some c->vs[i]? =some v->Go1 Z (k+i) c v)->EP Z k cs vs
 |[],[],_,_,_=>trivial
 |c::cs,v::vs,k,hl,h=>⟨h 0 c v rfl rfl,EP.of cs vs (k+1) (by simpa using hl) λi c' v' h1 h2=>by
   have:=h (i+1) c' v' (by simpa using h1) (by simpa using h2)
   grind⟩
theorem EP.split{Z:V}:∀(cs:List dV)(vs:List Value)(ds:List dV)(us:List Value)(k:Nat),cs.length=vs.length->EP Z k (cs++ds) (vs++us)->EP Z k cs vs/\EP Z (k+cs.length) ds us
 |[],[],_,_,_,_,h=>⟨trivial,h⟩
 |c::cs,v::vs,ds,us,k,hl,⟨h1,h2⟩=>by obtain⟨g1,g2⟩:=EP.split cs vs ds us (k+1) (by simpa using hl) h2;exact⟨⟨h1,g1⟩,by grind⟩
theorem EP.cells{Z:V}:∀(cs:List dV)(vs:List Value)(k:Nat),EP Z k cs vs->ai Z (jI k cs).1 vs
 |[],[],_,_=>trivial
 |c::cs,v::vs,k,⟨h1,h2⟩=>⟨h1,EP.cells cs vs (k+1) h2⟩
theorem lq.go{Y Z:V}:∀(s:lq)(x:SV)(d:s.den)(v:Value)(k:Nat),s.read st x=some d->cO Y x v->EP Z k (s.out d).2 v.cells.toList->cO Z (rG k (s.out d)).1 v
 |.one c,.one x,d,v,k,h,hv,hg=>by
  rw[D8 v (aN.one x v hv)]at hg;exact hg.1
 |.agg l,.agg xs,d,v,k,h,⟨vs,hv,hc⟩,hg=>by
  rw[hv]at hg ⊢;exact⟨vs,rfl,EP.cells _ _ _ hg⟩
 |.one _,.agg _,_,_,_,h,_,_|.agg _,.one _,_,_,_,h,_,_=>by simp[lq.read]at h
theorem adr{Y Z:V}(hst:Y.ah=st.ah)(hpos:∀o e r l g,st.ah o=some (.arr e r l g)->0<r.len):∀(l:List lq)(xs:List SV)(d:yD l)(vs:List Value)(k:Nat),zC st l xs=some d->dh Y xs vs->
 EP Z k (GZ (gX l d)) (vs.flatMap λv=>v.cells.toList)->dh Z (gG k (gX l d)).1 vs
 |[],[],_,[],_,_,_,_=>trivial
 |s::r,x::xs,d,v::vs,k,h,⟨h1,h2⟩,hg=>by
  rw[zC]at h;split at h
  .next a b g1 g2=>cases h;have hl:=BK.length _ _ _ (lq.afo hst hpos s x a v g1 h1);obtain⟨k1,k2⟩:=EP.split _ _ _ _ k hl hg;exact⟨lq.go s x a v k g1 h1 k1,adr hst hpos r xs b vs _ g2 h2 k2⟩
  .cases h
 |[],_::_,_,_,_,h,_,_=>by simp[zC]at h
 |_::_,[],_,_,_,h,_,_=>by simp[zC]at h
theorem Vo:∀(l:List eG)(xs:List Cell)(d:jU l),iT l xs=some d->xs.flatMap Cell.refs=[]->(fQ l d).flatMap Cell.refs=[]
 |[],[],_,_,_=>rfl
 |c::r,x::xs,d,h,hx=>by
  rw[iT]at h;split at h
  .next a b g1 g2=>cases h;rw[arO,arG]at hx;show(c.cell a::fQ r b).flatMap Cell.refs=[];rw[arO,eG.adq c x a g1 hx.1,Vo r xs b g2 hx.2,arU]
  .cases h
 |[],_::_,_,h,_=>by simp[iT]at h
 |_::_,[],_,h,_=>by simp[iT]at h
theorem G5:∀(sh:List gV)(i:Nat)(b:vY sh),F7 st i sh=some b->∀(j:Nat)(e:Eff),(jA sh b)[j]? =some e->
 e=.lose\/∃l cs cs0,sh[j]? =some (.ptr l)/\e=.var cs/\st.ah ((i+j)*64+48)=some (.var cs0)/\cs0.flatMap Cell.refs=[]/\cs.flatMap Cell.refs=[]/\∀(X:V) vs,ai X cs0 vs->ai X cs vs
 |[],_,_,_,j,e,he=>by grind [jA]
 |.ptr l::r,i,b,h,j,e,he=>by
  rw[F7]at h;split at h
  .next cs b' hx hb=>
   split at h
   .next a hr ha=>
    cases h;cases j with
    |zero=>
     simp[jA]at he;subst he;exact .inr ⟨l,_,cs,rfl,rfl,by simpa using hx,hr,Vo _ _ _ ha hr,λX vs hc=>BH _ _ _ _ ha hc⟩
    |succ j=>
     rcases G5 r (i+1) b' hb j e (by simpa[jA]using he)with h|⟨l,cs',cs0,h1,h2,h3,h4⟩
     .exact .inl h
     .exact .inr ⟨l,cs',cs0,by simpa using h1,h2,by rw[show i+(j+1)=i+1+j by omega];exact h3,h4⟩
   .cases h
  .cases h
 |.p _::r,i,b,h,j,e,he|.own _ _::r,i,b,h,j,e,he=>by
  rw[F7]at h;cases j with
  |zero=>simp[jA]at he;exact .inl he.symm
  |succ j=>
   rcases G5 r (i+1) b h j e (by simpa[jA]using he)with h|⟨l,cs',cs0,h1,h2,h3,h4⟩
   .exact .inl h
   .exact .inr ⟨l,cs',cs0,by simpa using h1,h2,by rw[show i+(j+1)=i+1+j by omega];exact h3,h4⟩
theorem YM:∀{sh:List gV}{xs:List Arg}{d:lS sh},jY sh xs=some d->∀(j:Nat)(l:List eG),sh[j]? =some (.ptr l)->∃cs,xs[j]? =some (.ptr cs)
 |[],[],_,_,j,l,h=>by simp at h
 |s::r,x::xs,d,h,j,l,hj=>by
  rw[jY]at h;split at h
  .next a b h1 h2=>
   cases j with
   |zero=>
    simp at hj;subst hj;cases x with
    |ptr cs=>grind
    |_=>simp[gV.read]at h1
   |succ j=>obtain⟨cs,hc⟩:=YM h2 j l (by simpa using hj);exact⟨cs,by simpa using hc⟩
  .cases h
 |[],_::_,_,h,_,_,_=>by grind
 |_::_,[],_,h,_,_,_=>by simp[jY]at h
theorem ajk{sh:List gV}{b:vY sh}(hb:F7 st 0 sh=some b){q:Nat}{y:aB}(h:nD (jA sh b) q=some y):
 q%64=48/\∃l cs cs0,sh[q / 64]? =some (.ptr l)/\y=.var cs/\st.ah q=some (.var cs0)/\cs0.flatMap Cell.refs=[]/\cs.flatMap Cell.refs=[]/\∀(X:V) vs,ai X cs0 vs->ai X cs vs:=by
 unfold nD at h;split at h
 · grind [G5]
 · grind [Nat.eq_of_beq_eq_true,G5]
 .cases h
def gV.pz:(s:gV)->s.den->Prop
 |.p s,x=>s.pz x
 |.own _ r,(l:List r.den)=>∀x∈l,r.pz x
 |.ptr l,x=>Uc l x
def JH:(l:List gV)->lS l->Prop
 |[],_=>True
 |s::r,x=>s.pz x.1/\JH r x.2
theorem fP.Ud{X:V}(s:fP)(x:Arg)(d:s.den)(v:Value)(h:s.read x=some d)(hr:lY X x v):s.pz d:=
 (zB (X:=X) [s] (d,()) [v] ⟨fP.weak s x d v h hr,trivial⟩).1
theorem Q5{X:V}{args:List Arg}(ho:∀o x,eF args o=some x->bC X o x):∀(sh:List gV)(xs:List Arg)(d:lS sh)(vs:List Value)(i:Nat),(∀j a,xs[j]? =some a->args[i+j]? =some a)->
 jY sh xs=some d->wO X i xs vs->JH sh d
 |[],[],_,_,_,_,_,_=>trivial
 |s::r,x::xs,d,v::vs,i,hj,h,⟨hv,hvs⟩=>by
  rw[jY]at h;split at h
  .next a b h1 h2=>
   cases h;refine⟨?_,Q5 ho r xs b vs (i+1) (λj c hc=>by have:=hj (j+1) c (by simpa using hc);grind) h2 hvs⟩;have hx:args[i]? =some x:=hj 0 x rfl;cases s with
   |p s=>
    have h1':s.read x=some a:=by grind [gV.read]
    refine fP.Ud (X:=X) s x a v h1' ?_;cases x with
    |own _ _ _|ptr _=>cases s<;>simp[fP.read]at h1'
    |_=>exact hv
   |own e r'=>
    cases x with
    |own f s' l=>
     have h1':(match Nat.beq e f with|true=>if h:s'.beq r'=true then some (qw h l)else none|false=>none)=some a:=h1;split at h1'
     .split at h1'
      .next hb hs=>
       cases h1';have hsr:=ak.eq_of_beq s' r' hs;subst hsr;have wQ:eF args (i*64+49)=some (.arr f s' l false):=by
        unfold eF;rw[show(i*64+49) / 64=i by omega,hx]
        simp_all
       obtain⟨us,_,_,_,hrow⟩:=ho _ _ wQ;intro y hy;have hy':y∈l:=hy;obtain⟨j,hj1,hj2⟩:=asZ.1 hy';exact aX.pz s' _ _ (hrow j y (by grind))
      .cases h1'
     .cases h1'
    |_=>simp[gV.read]at h1
   |ptr l=>
    cases x with
    |ptr cs=>
     have h1':iT l cs=some a:=h1;have wQ:eF args (i*64+48)=some (.var cs):=by
      unfold eF;rw[show(i*64+48) / 64=i by omega,hx]
      simp_all
     obtain⟨_,arr,_,_,_,hc⟩:=ho _ _ wQ;exact F6 l a _ (BH _ _ _ _ h1' hc)
    |_=>simp[gV.read]at h1
  .cases h
 |[],_::_,_,_,_,_,h,_=>by simp[jY]at h
 |_::_,[],_,_,_,_,h,_=>by simp[jY]at h
theorem Gp:∀(l:List gV)(d:lS l),(sW l d).length=l.length
 |[],_=>rfl
 |_::r,d=>by simp[sW,Gp r d.2]
theorem Out.aki(rs:List (Bool×List dV))(k:Nat):((⟨rs,none⟩:Out).take k).2=(gG k rs).2:=by
 grind [Out.take]
theorem Out.akj(rs:List (Bool×List dV))(k:Nat):((⟨rs,none⟩:Out).take k).1=(match (gG k rs).1 with|[v]=>AV.sv v|vs=>.kR vs):=by
 grind [Out.take]
theorem ao4{args:List Arg}{S:Nat->Prop}{sh:List gV}{bZ:List lq}{x:lS sh}(hx:jY sh args=some x){d:yD bZ}{b:vY sh}{k:Nat}{vs:List SV}{us:List Value}
 (hR:Rel w (wP (eF args) γ) (QZ args γ S) γ' st a w') (hrs:dh (aj w (QZ args γ S) γ' st w') vs us) (hnd:uZ (xX bZ vs)=true) (hrd:zC st bZ vs=some d) (hbk:F7 st 0 sh=some b)
 (hap:∀o x,look ((⟨gX bZ d,none⟩:Out).take k).2 o=some x->nD (jA sh b) o=none):
 ∃γ2,aP ⟨w',w.heap.size,pq S args (jA sh b) γ,γ2,look ((⟨gX bZ d,none⟩:Out).take k).2⟩ ((⟨gX bZ d,none⟩:Out).take k).1 (if h:us.toArray.size=1 then us.toArray[0]else .tuple us.toArray)/\
  (∀o x,look ((⟨gX bZ d,none⟩:Out).take k).2 o=some x->bC ⟨w',w.heap.size,pq S args (jA sh b) γ,γ2,look ((⟨gX bZ d,none⟩:Out).take k).2⟩ o x/\
    ∀b',blk (γ2 o)=some b'->b'<w'.heap.size/\(w.heap.size<=b'\/wP (eF args) γ b')/\∀q y,nD (jA sh b) q=some y->blk (γ q)≠some b')/\
  (∀o x q y b',look ((⟨gX bZ d,none⟩:Out).take k).2 o=some x->look ((⟨gX bZ d,none⟩:Out).take k).2 q=some y->o≠q->blk (γ2 o)=some b'->blk (γ2 q)≠some b')/\
  (∀o x,nD (jA sh b) o=some x->γ2 o=γ o/\bC ⟨w',w.heap.size,pq S args (jA sh b) γ,γ2,look ((⟨gX bZ d,none⟩:Out).take k).2⟩ o x):=by
 rw[Out.aki]at hap ⊢;rw[Out.akj]
 skip
 let Y:V:=aj w (QZ args γ S) γ' st w'
 let fv:List Value:=us.flatMap λv=>v.cells.toList
 let aJ:=jA sh b
 let γ2:Nat->Value:=λp=>match nD aJ p with|some _=>γ p|none=>fv.getD (p-k) undef
 let Z:V:=⟨w',w.heap.size,pq S args aJ γ,γ2,look (gG k (gX bZ d)).2⟩
 have hpos:∀o e r l g,st.ah o=some (.arr e r l g)->0<r.len:=λo e r l g ho=>by obtain⟨_,_,h,_⟩:=hR.ah o _ ho;exact h
 have hF:BK Y (GZ (gX bZ d)) fv (xX bZ vs):=YL (st:=st) rfl hpos bZ vs d us hrd hrs;have hbq:∀q y,nD aJ q=some y->γ' q=γ q/\∃cs cs0,y=.var cs/\st.ah q=some (.var cs0)/\cs0.flatMap Cell.refs=[]/\cs.flatMap Cell.refs=[]/\∀(X:V) vs,ai X cs0 vs->ai X cs vs:=by
  intro q y hq;obtain⟨hm,l,cs,cs0,h1,h2,h3,h4,h5,h6⟩:=ajk hbk hq;refine⟨?_,cs,cs0,h2,h3,h4,h5,h6⟩;obtain⟨ci,hci⟩:=YM hx _ l h1;have ho:eF args q=some (.var ci):=by
   simp_all [eF]
  have hN:(QZ args γ S).N q=some (γ q):=by
   show abA args γ q=_
   grind [abA]
  exact hR.pin q _ _ hN h3
 have hG:∀p X,look (gG k (gX bZ d)).2 p=some X->∃i e r l fr,p=k+i/\(GZ (gX bZ d))[i]? =some (.own e r l fr)/\X=.arr e r l fr/\0<r.len/\
  ((∃o g,(xX bZ vs)[i]? =some (some o)/\st.ah o=some (.arr e r l g)/\Io fr g=true/\γ2 p=γ' o/\(γ2 p).oneCell'=true)\/(l=[]/\γ2 p=.slice none 0 0)):=by
  intro p X hp;obtain⟨i,e,r,l,fr,h1,h2,h3⟩:=(xE _ k p X).1 hp;obtain⟨v,n,g1,g2,hr,hv⟩:=BK.get _ _ _ i _ hF h2
  grind
 have Ua:∀b',Y.foot b'->Z.foot b':=by
  intro b' hb';refine⟨hb'.1,λhlt=>⟨hb'.2.1 hlt,λq y hq=>?_⟩,λp X hp=>?_⟩
  .obtain⟨hγ,cs,cs0,_,h3,_⟩:=hbq q y hq;rw[← hγ];exact hb'.2.2 q _ h3
  .obtain⟨i,e,r,l,fr,_,_,_,_,hc⟩:=hG p X hp;show blk (γ2 p)≠some b';rcases hc with⟨o,g,_,ho,_,hγ,_⟩|⟨_,hγ⟩
   .rw[hγ];exact hb'.2.2 o _ ho
   .rw[hγ];intro h;cases h
 have ajl:∀fr b',Y.bP fr b'->Z.bP fr b':=λfr b' h=>⟨Ua b' h.1,h.2⟩;have hgo:EP Z k (GZ (gX bZ d)) fv:=by
  refine EP.of _ _ _ (BK.length _ _ _ hF) λi c v hc hv=>?_;obtain⟨v',n,g1,g2,g3⟩:=BK.get _ _ _ i c hF hc;rw[hv]at g1;cases g1;cases c with
  |plain x=>
   exact(Dj (Y:=Y) (Z:=Z) rfl ajl [x] [v] (by simpa using g3.2) ⟨g3.1,trivial⟩).1
  |own e r l fr=>
   have hp:look (gG k (gX bZ d)).2 (k+i)=some (.arr e r l fr):=(xE _ k _ _).2 ⟨i,e,r,l,fr,rfl,hc,rfl⟩;have hγ:γ2 (k+i)=v:=by
    grind
   refine⟨⟨e,r,l,fr,hp⟩,hγ.symm,?_⟩;rcases g3.2 with⟨_,_,_,_,_,_,h⟩|⟨_,h⟩
   .exact h
   .rw[h];rfl
 have hsv:dh Z (gG k (gX bZ d)).1 us:=adr (st:=st) (Y:=Y) rfl hpos bZ vs d us k hrd hrs hgo;refine⟨γ2,?_,λp X hp=>?_,λp X q X' b' hp hq hne hb1 hb2=>?_,λq y hq=>?_⟩
 .have hl:=dh.length _ _ hsv
  match hm:(gG k (gX bZ d)).1,us,hsv,hl with
  |[v],[u],hk,_=>exact hk.1
  |[],[],hk,_=>exact⟨_,by simp,hk⟩
  |v::v2::r,u::u2::us,hk,hl=>exact⟨_,by simp,hk⟩
  |[],_::_,hk,h4|_::_,[],hk,h4|[_],_::_::_,hk,h4|_::_::_,[_],hk,h4=>simp at h4
 .obtain⟨i,e,r,l,fr,_,_,rfl,hr,hc⟩:=hG p X hp;rcases hc with⟨o,g,_,ho,hb,hγ,_⟩|⟨rfl,hγ⟩
  .have hO:bC Y o (.arr e r l g):=hR.ah o _ ho;have hold:∀b',blk (γ' o)=some b'->fr=true->w.heap.size<=b':=by
    intro b' hb' hfr;subst hfr;have hg:g=true:=hb;subst hg;obtain⟨_,_,_,hn,_⟩:=hO
    grind
   refine⟨bC.abv (Y:=Y) (Z:=Z) hO hγ rfl (λb' hb'=>⟨Ua b' hb'.1,λhfr=>hb'.2 ?_⟩) hold,λb' hb'=>?_⟩
   .subst hfr;exact hb
   .rw[hγ]at hb';obtain⟨h1,h2⟩:=hR.lt o _ b' ho hb';refine⟨h1,h2,λq y hq=>?_⟩;obtain⟨hγq,cs,cs0,_,h3,_⟩:=hbq q y hq;rw[← hγq];refine hR.sep o _ q _ b' ho h3 ?_ hb'
    grind
  .refine⟨⟨[],⟨by simp,.inl ⟨hγ,rfl⟩⟩,hr,(λb' hb'=>by grind [blk]),λi x hi=>by simp at hi⟩,λb' hb'=>by rw[hγ]at hb';cases hb'⟩
 .obtain⟨i,e,r,l,fr,hi,_,_,_,hc⟩:=hG p X hp;obtain⟨j,e',r',l',fr',hj,_,_,_,hc'⟩:=hG q X' hq;rcases hc with⟨o,g,hn,ho,_,hγ,_⟩|⟨_,hγ⟩
  .rcases hc' with⟨o',g',hn',ho',_,hγ',_⟩|⟨_,hγ'⟩
   .rw[hγ]at hb1;rw[hγ']at hb2;have:o≠o':=by
     grind [KE]
    exact hR.sep o _ o' _ b' ho ho' this hb1 hb2
   .rw[hγ']at hb2;cases hb2
  .rw[hγ]at hb1;cases hb1
 .obtain⟨hγ,cs,cs0,rfl,h3,h4,h5,h6⟩:=hbq q y hq;have zy:γ2 q=γ q:=by
   grind
  refine⟨zy,?_⟩;obtain⟨b',arr,t,k1,k2,k3⟩:=hR.ah q _ h3;refine⟨b',arr,t,?_,k2,Dj (Y:=Y) (Z:=Z) rfl ajl _ _ h5 (h6 _ _ k3)⟩
  grind
theorem alZ{G:iQ}(hE:EnvB P G Θ Γ)(hm:P.follows .mixedOrders=true){f:FuncId}{fn:Func}{c:Code}(hf:P.funcs[f]? =some fn)(hb:fn.body=some c)(H:Hints)
 {sh:List gV} {bZ:List lq} {F:lS sh->Prop×(yD bZ×vY sh->Prop)} (hn:Nat.ble sh.length fn.ntmps=true) (hne:∀x,(F x).1->∃t,(F x).2 t)
 (hwalk:∀x,JH sh x->(F x).1->Eg Θ Γ H c (aey Θ fn.results.toList sh bZ (F x).2) (BJ fn.ntmps (sW sh x))):BG P G f (aeN sh bZ F):=by
 intro args p ρ hcon hp;unfold aeN at hcon;split at hcon
 case h_2=>cases hcon
 next x hx=>
 cases hcon;refine⟨hne x hp,λk S γ vs w hG hrep wQ hsep hap=>?_⟩;have hlen:=(GY hx).1;rw[Gp]at hlen;have hn':args.length<=fn.ntmps:=by simp_all
 have hin:JH sh x:=Q5 (λo X ho=>(wQ o X ho).1) sh args x vs.toList 0 (λj a h=>by grind) hx hrep;have hR0:=YJ (S:=S) fn.ntmps hn' hrep (λo X ho=>⟨(wQ o X ho).1,λb hb=>((wQ o X ho).2 b hb).1⟩) hsep;have hR1:=hR0.covers (Pe hx fn.ntmps);refine calls_of_wp hf hb (QY ⟨hE,hG,λb hb=>?_⟩ hm H c _ _ _ _ _ _ hR1 (hwalk x hin hp) ?_)
 .obtain⟨o,X,ho,hb⟩:=hb
  grind
 intro e s γ' a' w' he hR;have hret:∃(us:List Value)(t:yD bZ×vY sh),(fn.results.mapM (F5 a'.tmps)).run P w'=.ok us.toArray w'/\(F x).2 t/\∃γ2,
  aP ⟨w',w.heap.size,pq S args (jA sh t.2) γ,γ2,look ((⟨gX bZ t.1,none⟩:Out).take k).2⟩ ((⟨gX bZ t.1,none⟩:Out).take k).1 (if h:us.toArray.size=1 then us.toArray[0]else .tuple us.toArray)/\
  (∀o x',look ((⟨gX bZ t.1,none⟩:Out).take k).2 o=some x'->bC ⟨w',w.heap.size,pq S args (jA sh t.2) γ,γ2,look ((⟨gX bZ t.1,none⟩:Out).take k).2⟩ o x'/\
    ∀b,blk (γ2 o)=some b->b<w'.heap.size/\(w.heap.size<=b\/wP (eF args) γ b)/\∀q y,nD (jA sh t.2) q=some y->blk (γ q)≠some b)/\
  (∀o x' q y b,look ((⟨gX bZ t.1,none⟩:Out).take k).2 o=some x'->look ((⟨gX bZ t.1,none⟩:Out).take k).2 q=some y->o≠q->blk (γ2 o)=some b->blk (γ2 q)≠some b)/\
  (∀o x',nD (jA sh t.2) o=some x'->γ2 o=γ o/\bC ⟨w',w.heap.size,pq S args (jA sh t.2) γ,γ2,look ((⟨gX bZ t.1,none⟩:Out).take k).2⟩ o x'):=by
  have he':(e=.normal\/e=.ret)/\aey Θ fn.results.toList sh bZ (F x).2 .ret s:=by
   cases e with
   |normal=>exact⟨.inl rfl,he⟩
   |ret=>grind
   |_=>exact he.elim
  have he2:=he'.2;simp only[aey]at he2;split at he2
  .next svs aqM=>
   split at he2
   .next vs' hvs'=>
    split at he2
    .next d b hnd hd hb'=>
     have hRf:=hR.freeze (YI s (xX bZ svs));obtain⟨us,hus,hrs⟩:=Iq hE.types hRf _ _ hvs';refine⟨us,(d,b),?_,he2,ao4 hx hRf hrs hnd hd hb' (hap (d,b) he2)⟩
     simp_all [atd]
    grind
   grind
  grind
 obtain⟨us,t,hus,ht,γ2,h1,h2,h3,h4⟩:=hret;have hfin:bodyPost P fn (λe w'=>∃t,(F x).2 t/\Jy S args γ w k ⟨gX bZ t.1,none⟩ (jA sh t.2) e w') .ret a' w':=by
  refine⟨hR.defers,if h:us.toArray.size=1 then us.toArray[0]else .tuple us.toArray,?_,t,ht,_,γ2,rfl,hR.os,hR.tape,hR.output,hR.grow,hR.kept,h1,h2,h3,h4⟩;rw[NK,arE,hus]
  simp_all
 cases e with
 |normal=>exact hfin
 |ret=>exact hfin
 |_=>exact he.elim
def aez(rv:List ResultVar)(l:List eG)(K:jU l->Prop)(e:Exit)(st:St):Prop:=
 match e with
 |.normal|.ret=>match rv with
  |[.tmp t]=>match st.tmps t with
   |.dU o off=>match Nat.beq off 0,(st.freeze (JF st)).ah o with
    |true,some (.var cs)=>match cs.flatMap Cell.refs,iT l cs with
     |[],some d=>K d
     |_,_=>False
    |_,_=>False
   |_=>False
  |_=>False
 |_=>False
def loses(sh:List gV):List Eff:=sh.map λ_=>.lose
def akk(sh:List gV)(l:List eG)(F:lS sh->Prop×(jU l->Prop)):Qs:=λargs=>
 match jY sh args with
 |some x=>some ((F x).1,⟨jU l,(F x).2,λt=>⟨[],some (fQ l t)⟩,λ_=>loses sh⟩)
 |none=>none
theorem NM(sh:List gV)(q:Nat):nD (loses sh) q=none:=by
 grind [nD,loses]
theorem LK:∀(l:List eG)(cs:List Cell)(d:jU l),iT l cs=some d->cs.flatMap Cell.refs=[]->(fQ l d).flatMap Cell.refs=[]
 |[],[],_,_,_=>rfl
 |c::l,x::xs,d,h,hn=>by
  rw[iT]at h;rw[arO,arG]at hn;split at h
  .next p q hp hq=>
   cases h;show((c.cell p)::fQ l q).flatMap Cell.refs=[];rw[arO,arG];refine⟨?_,LK l xs q hq hn.2⟩;cases c with
   |ref o=>
    cases x<;>simp[eG.read,Cell.refs]at hp hn
   |_=>rfl
  .cases h
 |[],_::_,_,h,_=>by simp[iT]at h
 |_::_,[],_,h,_=>by simp[iT]at h
theorem al0{G:iQ}(hE:EnvB P G Θ Γ)(hm:P.follows .mixedOrders=true){f:FuncId}{fn:Func}{c:Code}(hf:P.funcs[f]? =some fn)(hb:fn.body=some c)(H:Hints)
 {sh:List gV} {l:List eG} {F:lS sh->Prop×(jU l->Prop)} (hn:Nat.ble sh.length fn.ntmps=true) (hne:∀x,(F x).1->∃t,(F x).2 t)
 (hwalk:∀x,JH sh x->(F x).1->Eg Θ Γ H c (aez fn.results.toList l (F x).2) (BJ fn.ntmps (sW sh x))):BG P G f (akk sh l F):=by
 intro args p ρ hcon hp;unfold akk at hcon;split at hcon
 case h_2=>cases hcon
 next x hx=>
 cases hcon;refine⟨hne x hp,λk S γ vs w hG hrep wQ hsep hap=>?_⟩;have hlen:=(GY hx).1;rw[Gp]at hlen;have hn':args.length<=fn.ntmps:=by simp_all
 have hin:JH sh x:=Q5 (λo X ho=>(wQ o X ho).1) sh args x vs.toList 0 (λj a h=>by grind) hx hrep;have hR0:=YJ (S:=S) fn.ntmps hn' hrep (λo X ho=>⟨(wQ o X ho).1,λb hb=>((wQ o X ho).2 b hb).1⟩) hsep;have hR1:=hR0.covers (Pe hx fn.ntmps);refine calls_of_wp hf hb (QY ⟨hE,hG,λb hb=>?_⟩ hm H c _ _ _ _ _ _ hR1 (hwalk x hin hp) ?_)
 .obtain⟨o,X,ho,hb⟩:=hb
  grind
 intro e s γ' a' w' he hR;have he':aez fn.results.toList l (F x).2 .ret s:=by
  cases e with
  |normal=>exact he
  |ret=>exact he
  |_=>exact he.elim
 have hfin:bodyPost P fn (λe w'=>∃t,(F x).2 t/\Jy S args γ w k ⟨[],some (fQ l t)⟩ (loses sh) e w') .ret a' w':=by
  simp only[aez]at he';split at he'
  case h_2=>exact he'.elim
  next t hrv=>
  split at he'
  case h_2=>exact he'.elim
  next o off htm=>
  split at he'
  case h_2=>exact he'.elim
  next cs hoff hcs=>
  split at he'
  case h_2=>exact he'.elim
  next d hnr hd=>
  have hoff:=aq3 hoff;subst hoff;have hRf:=hR.freeze (JF s);have hv:=hR.tmps t;rw[htm]at hv;obtain⟨b,cs0,_,hγ,hval⟩:=hv;obtain⟨b',arr,ty,g1,g2,g3⟩:=hRf.ah o _ hcs;have g1:γ' o=.pointer (some ⟨b',0,none⟩):=g1;have hγ:γ' o=.pointer (some ⟨b,0,none⟩):=hγ;rw[hγ]at g1;cases g1;have hblk:blk (γ' o)=some b:=by rw[hγ];rfl
  have hlt:=hRf.lt o _ b hcs hblk
  let γ2:Nat->Value:=λ_=>γ' o
  let Z:V:=⟨w',w.heap.size,pq S args (loses sh) γ,γ2,look (Out.take k ⟨[],some (fQ l d)⟩).2⟩
  have hlook:∀q y,look (Out.take k ⟨[],some (fQ l d)⟩).2 q=some y->q=k-1/\y=.var (fQ l d):=by
   intro q y hq;have hmem:=tY _ q y hq
   grind [Out.take]
  have Ua:∀fr b',(aj w (QZ args γ S) γ' (s.freeze (JF s)) w').bP fr b'->Z.bP fr b':=by intro fr b' hb';refine⟨⟨hb'.1.1,λhlt'=>⟨hb'.1.2.1 hlt',λq y hq=>by grind [NM]⟩,λq y hq=>?_⟩,hb'.2⟩;exact hb'.1.2.2 o _ hcs
  have hcells:ai Z (fQ l d) arr.toList:=
   Dj (Y:=aj w (QZ args γ S) γ' (s.freeze (JF s)) w') (Z:=Z) rfl Ua _ _ (LK l cs d hd hnr) (BH l cs d _ hd g3)
  have hself:look (Out.take k ⟨[],some (fQ l d)⟩).2 (k-1)=some (.var (fQ l d)):=by simp[Out.take,look]
  refine⟨hR.defers,a'.tmps.getD t undef,?_,d,he',_,γ2,rfl,hR.os,hR.tape,hR.output,hR.grow,hR.kept,?_,λq y hq=>?_,λq y q' y' b' hq hq' hne'=>?_,λq y hq=>by grind [NM]⟩
  .have:fn.results=#[.tmp t]:=by grind
   have hmap:(Array.mapM (F5 a'.tmps) #[ResultVar.tmp t]).run P w'=.ok #[a'.tmps.getD t undef] w':=by
    simp_all [F5]
   rw[NK,this,arE,hmap];rfl
  .exact⟨b,fQ l d,hself,hγ,hval⟩
  .obtain⟨rfl,rfl⟩:=hlook q y hq;refine⟨⟨b,arr,ty,hγ,g2,hcells⟩,λb' hb'=>?_⟩
   grind [NM]
  grind
 cases e with
 |normal=>exact hfin
 |ret=>exact hfin
 |_=>exact he.elim
end Go.Fw
namespace Go.Fw
open Go
def CT.isZero:CT->Value->Bool
 |.int k,.int l n=>decide (k=l)&&decide (n=0)
 |.bool,.bool b=>!b
 |.str,.string s=>s.data.toList.isEmpty
 |.sl _ _,.slice none 0 0=>true
 |_,_=>false
def ak.LM:ak->List Value->Bool
 |.nil,[]=>true
 |.cons c r,v::vs=>c.isZero v&&r.LM vs
 |_,_=>false
theorem CT.ajm:∀(c:CT)(v:Value),c.isZero v=true->v=c.abn:=by
 intro c v h;unfold CT.isZero at h;split at h
 .simp at h;rw[h.1,h.2];rfl
 .simp at h;subst h;rfl
 .next s=>obtain⟨⟨l⟩⟩:=s;simp at h;subst h;rfl
 .rfl
 .cases h
theorem ak.YN:∀(r:ak)(vs:List Value),r.LM vs=true->vs=r.lX
 |.nil,[],_=>rfl
 |.cons c r,v::vs,h=>by
  rw[LM,aq5]at h;rw[ak.lX,CT.ajm c v h.1,ak.YN r vs h.2]
 |.nil,_::_,h|.cons _ _,[],h=>by simp[LM]at h
def afp:TypeDesc->TypeDesc->Bool
 |.int k,.int l=>decide (k=l)
 |.bool,.bool=>true
 |.string,.string=>true
 |.slice e,.slice f=>Nat.beq e f
 |_,_=>false
theorem ajn:∀(c d:TypeDesc),afp c d=true->c=d:=by
 intro c d h;unfold afp at h;split at h
 · grind
 .rfl
 .rfl
 · simp_all
 .cases h
def Ir(P:Program):List (Nat×TypeId)->List Field->Bool
 |[],[]=>true
 |(o,t)::r,f::fs=>Nat.beq o f.offset&&Nat.beq t f.type&&(P.info? f.type).isSome&&Ir P r fs
 |_,_=>false
theorem Vp{P:Program}:∀(l:List (Nat×TypeId))(fs:List Field),Ir P l fs=true->l=fs.map (λf=>(f.offset,f.type))/\∀f∈fs,(P.info? f.type).isSome=true
 |[],[],_=>⟨rfl,by simp⟩
 |(o,t)::r,f::fs,h=>by
  rw[Ir,aq5,aq5,aq5]at h;obtain⟨⟨⟨h1,h2⟩,h3⟩,h4⟩:=h;obtain⟨e,hall⟩:=Vp r fs h4;refine⟨by rw[arB,← e,aq3 h1,aq3 h2],λg hg=>?_⟩;rcases arD.1 hg with rfl|hg
  .exact h3
  .exact hall g hg
 |[],_::_,h|_::_,[],h=>by simp[Ir]at h
def ajo(P:Program)(t:TypeId)(ti:TI):Bool:=
 match ti.kind,P.underlying t with
 |.scalar,some d=>match ti.cells.desc with|some c=>afp c d|none=>false
 |.str,some .string=>ti.cells.beq (.cons .str .nil)
 |.slice e,some (.slice f)=>Nat.beq e f&&(match ti.cells with|.cons (.sl g _) .nil=>Nat.beq g e|_=>false)
 |.struct fs,some (.struct yA)=>Ir P fs yA.toList
 |_,_=>false
def ahe(ti:TI)(z:Value):Bool:=match ti.kind with
 |.struct _=>true
 |_=>z.oneCell'
def abB(P:Program)(t:TypeId)(ti:TI):Bool:=
 match P.info? t with
 |some i=>match i.zero with
  |some z=>Nat.beq i.size ti.cells.len&&Nat.beq i.bytes ti.bytes&&ti.cells.LM z.cells.toList&&ahe ti z&&ajo P t ti&&Nat.ble ti.bytes 4096&&(!ti.cmp||ahK P t ti.cells)
  |none=>false
 |none=>false
theorem jP.akl{P:Program}{t:TypeId}{ti:TI}(h:abB P t ti=true):jP P t ti:=by
 unfold abB at h;split at h
 .next i hi=>
  split at h
  .next z hz=>
   simp only[aq5]at h;obtain⟨⟨⟨⟨⟨⟨h1,h2⟩,h3⟩,h4⟩,h5⟩,h6⟩,h7⟩:=h;refine⟨⟨i,z,hi,aq3 h1,aq3 h2,hz,ak.YN _ _ h3,λhagg=>?_⟩,?_,by simp_all,λe w s u X xs ys vs us b hf hx hy he=>alT (by grind) w s u X xs ys vs us b hf hx hy he⟩
   · grind [ahe,TI.agg,D8]
   grind [ajo,ajn,ak.eq_of_beq,Nat.eq_of_beq_eq_true,Vp]
  .cases h
 .cases h
def LQ(P:Program):List (Nat×TI)->Bool
 |[]=>true
 |(t,ti)::r=>abB P t ti&&LQ P r
theorem afq{P:Program}:∀{l:List (Nat×TI)},LQ P l=true->∀t ti,YF l t=some ti->jP P t ti
 |[],_,t,ti,h=>by cases h
 |(i,x)::r,hc,t,ti,h=>by
  rw[LQ,aq5]at hc;rw[YF]at h;cases hb:Nat.beq t i with
  |true=>rw[hb]at h;cases h;rw[aq3 hb];exact .akl hc.1
  |false=>rw[hb]at h;exact afq hc.2 t ti h
def Ue(fn:Func):Bool:=fn.body.isSome&&!(fn.name== "runtime.NumGoroutine")
theorem xY{P:Program}{f:FuncId}{fn:Func}(hf:P.funcs[f]? =some fn)(hc:Ue fn=true):o6 P f:=by
 intro args w;unfold Ue at hc;have h2:fn.body.isNone=false:=by simp_all
 grind [callFunc,Sem.run_bind,run_program,Result.andThen_ok,Sem.run_pure]
def ajp(P:Program)(G:iQ)(f:FuncId):DZ->Prop
 |.pure c=>ja P G f c/\o6 P f
 |.eff _ c=>BG P G f c/\o6 P f
theorem ajq{P:Program}{G:iQ}{Θ:gU}(hT:∀t ti,Θ t=some ti->jP P t ti):∀{l:List (Nat×DZ)},(∀x∈l,ajp P G x.1 x.2)->EnvB P G Θ (Fz l)
 |[],_=>⟨hT,(λf con h=>by cases h),(λf ms con h=>by cases h)⟩
 |(i,c)::r,h=>by
  have ih:=ajq (G:=G) hT λx hx=>h x (ard _ hx);refine⟨hT,λf con hf=>?_,λf ms con hf=>?_⟩
  .rw[Fz]at hf;cases hb:Nat.beq f i with
   |true=>rw[hb]at hf;cases hf;rw[aq3 hb];exact h (i,.pure con) arj
   |false=>rw[hb]at hf;exact ih.cons f con hf
  .rw[Fz]at hf;cases hb:Nat.beq f i with
   |true=>rw[hb]at hf;cases hf;rw[aq3 hb];exact h (i,.eff ms con) arj
   |false=>rw[hb]at hf;exact ih.aex f ms con hf
end Go.Fw
namespace Go.Fw
open Go
structure PA where
 n:Nat
 sh:List fP
 bZ:List kX
 F:kD sh->Prop×qU bZ
structure XA where
 n:Nat
 sh:List gV
 bZ:List lq
 F:lS sh->Prop×(yD bZ×vY sh->Prop)
structure QA where
 n:Nat
 sh:List gV
 bZ:List eG
 F:lS sh->Prop×(jU bZ->Prop)
def PA.e(q:PA):Nat×DZ:=(q.n,.pure (nV q.sh q.bZ q.F))
def XA.e(q:XA):Nat×DZ:=(q.n,.eff (afn q.sh) (aeN q.sh q.bZ q.F))
def QA.e(q:QA):Nat×DZ:=(q.n,.eff (afn q.sh) (akk q.sh q.bZ q.F))
def YO(P:Program)(G:iQ)(x:Nat×DZ):Prop:=ajp P G x.1 x.2
def Q7(P:Program)(G:iQ):List (Nat×DZ)->Prop
 |[]=>True
 |x::l=>YO P G x/\Q7 P G l
theorem akm{P:Program}{G:iQ}{l':List (Nat×TI)}(hT:LQ P l'=true){l:List (Nat×DZ)}(h:Q7 P G l):EnvB P G (YF l') (Fz l):=
 ajq (afq hT) (by
  induction l with
  |nil=>grind
  |cons y l ih=>exact List.forall_mem_cons.2 ⟨h.1,ih h.2⟩)
def abC:(l:List eG)->(jU l->Prop)->Prop
 |[],p=>p ()
 |c::r,p=>∀x:c.den,abC r λy=>p (x,y)
theorem LU:∀{l:List eG}{p:jU l->Prop},abC l p->∀x,p x
 |[],_,h,()=>h
 |_::_,_,h,(x,y)=>LU (h x) y
def ah1:(l:List (List eG))->(xW l->Prop)->Prop
 |[],p=>p ()
 |c::r,p=>abC c λx=>ah1 r λy=>p (x,y)
theorem afr:∀{l:List (List eG)}{p:xW l->Prop},ah1 l p->∀x,p x
 |[],_,h,()=>h
 |_::_,_,h,(x,y)=>afr (LU h x) y
def akn:(s:fP)->(s.den->Prop)->Prop
 |.v (.one c),p=>∀x:c.den,p x
 |.v (.agg l),p=>abC l p
 |.kp l,p=>abC l p
 |.fn _ l,p=>ah1 l p
theorem ahf:∀{s:fP}{p:s.den->Prop},akn s p->∀x,p x
 |.v (.one _),_,h,x=>h x
 |.v (.agg _),_,h,x=>LU h x
 |.kp _,_,h,x=>LU h x
 |.fn _ _,_,h,x=>afr h x
def ah2:(l:List fP)->(kD l->Prop)->Prop
 |[],p=>p ()
 |s::r,p=>akn s λx=>ah2 r λy=>p (x,y)
theorem afs:∀{l:List fP}{p:kD l->Prop},ah2 l p->∀x,p x
 |[],_,h,()=>h
 |_::_,_,h,(x,y)=>afs (ahf h x) y
def amB:(s:gV)->(s.den->Prop)->Prop
 |.p s,p=>akn s p
 |.own _ r,p=>∀x:List r.den,p x
 |.ptr l,p=>abC l p
theorem al1:∀{s:gV}{p:s.den->Prop},amB s p->∀x,p x
 |.p _,_,h,x=>ahf h x
 |.own _ _,_,h,x=>h x
 |.ptr _,_,h,x=>LU h x
def aeA:(l:List gV)->(lS l->Prop)->Prop
 |[],p=>p ()
 |s::r,p=>amB s λx=>aeA r λy=>p (x,y)
theorem Wq:∀{l:List gV}{p:lS l->Prop},aeA l p->∀x,p x
 |[],_,h,()=>h
 |_::_,_,h,(x,y)=>Wq (al1 h x) y
abbrev LP{α:Type}(x:α)(f:(α->Prop)->(α->Nat)->α->Prop):Prop:=∃(I:α->Prop),∃(μ:α->Nat),I x/\∀(y:α),I y->f I μ y
abbrev NX{σ α:Type}(s:σ)(I:α->Prop)(μ:α->Nat)(x y:α):Prop:=s=s/\I x/\μ x<μ y
def H0:Hints:=hints [] [] [] [] []
def Bg(P:Program)(n:Nat):Func:=match P.funcs[n]? with|some f=>f|none=>default
def F8(P:Program)(n k:Nat):Bool:=P.funcs[n]?.isSome&&Ue (Bg P n)&&Nat.ble k (Bg P n).ntmps
theorem Q8{P:Program}{n k:Nat}(h:F8 P n k=true):P.funcs[n]? =some (Bg P n)/\(Bg P n).body=some (codeOf (Bg P n))/\o6 P n/\Nat.ble k (Bg P n).ntmps=true:=by
 grind [F8,Bg,xY,Ue,codeOf]
def PA.goal(q:PA)(g:(qU q.bZ->Prop)->Prop)(x:kD q.sh):Prop:=GX q.sh x->(q.F x).1->g λr=>r=(q.F x).2
def XA.goal(q:XA)(g:(yD q.bZ×vY q.sh->Prop)->Prop)(x:lS q.sh):Prop:=JH q.sh x->(q.F x).1->g (q.F x).2
def QA.goal(q:QA)(g:(jU q.bZ->Prop)->Prop)(x:lS q.sh):Prop:=JH q.sh x->(q.F x).1->g (q.F x).2
def PA.say(P:Program)(Θ:gU)(Γ:jf)(H:Hints)(q:PA):Prop:=bif F8 P q.n q.sh.length then ah2 q.sh λx=>q.goal (λK=>Eg Θ Γ H (codeOf (Bg P q.n)) (YG Θ (Bg P q.n).results.toList q.bZ K) (entry (Bg P q.n).ntmps (qH q.sh x))) x else False
def XA.say(P:Program)(Θ:gU)(Γ:jf)(H:Hints)(q:XA):Prop:=bif F8 P q.n q.sh.length then aeA q.sh λx=>q.goal (λK=>Eg Θ Γ H (codeOf (Bg P q.n)) (aey Θ (Bg P q.n).results.toList q.sh q.bZ K) (BJ (Bg P q.n).ntmps (sW q.sh x))) x else False
def QA.say(P:Program)(Θ:gU)(Γ:jf)(H:Hints)(q:QA):Prop:=bif F8 P q.n q.sh.length then aeA q.sh λx=>q.goal (λK=>Eg Θ Γ H (codeOf (Bg P q.n)) (aez (Bg P q.n).results.toList q.bZ K) (BJ (Bg P q.n).ntmps (sW q.sh x))) x else False
variable {P:Program} {Θ:gU} {Γ:jf} {G:iQ}
theorem PA.ok{q:PA}(hm:P.follows .mixedOrders=true)(hE:EnvB P G Θ Γ)(H:Hints){p:Prop}
 (hp:q.say P Θ Γ H=p) (h:p):YO P G q.e:=by
 subst hp;unfold PA.say at h;cases hc:F8 P q.n q.sh.length with
 |false=>grind
 |true=>rw[hc]at h;obtain⟨h1,h2,h3,h4⟩:=Q8 hc;exact⟨abx hE hm h1 h2 H h4 λx hi hx=>afs h x hi hx,h3⟩
theorem XA.ok{q:XA}(hm:P.follows .mixedOrders=true)(hE:EnvB P G Θ Γ)(H:Hints)(hne:∀x,(q.F x).1->∃t,(q.F x).2 t){p:Prop}
 (hp:q.say P Θ Γ H=p) (h:p):YO P G q.e:=by
 subst hp;unfold XA.say at h;cases hc:F8 P q.n q.sh.length with
 |false=>grind
 |true=>rw[hc]at h;obtain⟨h1,h2,h3,h4⟩:=Q8 hc;exact⟨alZ hE hm h1 h2 H h4 hne λx hi hx=>Wq h x hi hx,h3⟩
theorem QA.ok{q:QA}(hm:P.follows .mixedOrders=true)(hE:EnvB P G Θ Γ)(H:Hints)(hne:∀x,(q.F x).1->∃t,(q.F x).2 t){p:Prop}
 (hp:q.say P Θ Γ H=p) (h:p):YO P G q.e:=by
 subst hp;unfold QA.say at h;cases hc:F8 P q.n q.sh.length with
 |false=>grind
 |true=>rw[hc]at h;obtain⟨h1,h2,h3,h4⟩:=Q8 hc;exact⟨al0 hE hm h1 h2 H h4 hne λx hi hx=>Wq h x hi hx,h3⟩
abbrev eG.i:eG:=.int .i64
abbrev eG.b:eG:=.bool
abbrev eG.s:eG:=.str
abbrev eG.l(e:TypeId)(r:ak):eG:=.sl e r false
abbrev eG.f(e:TypeId)(r:ak):eG:=.sl e r true
abbrev kX.i:kX:=.one .i
abbrev kX.b:kX:=.one .b
abbrev kX.s:kX:=.one .s
abbrev kX.l(e:TypeId)(r:ak):kX:=.one (.l e r)
abbrev kX.f(e:TypeId)(r:ak):kX:=.one (.f e r)
abbrev fP.i:fP:=.v .i
abbrev fP.b:fP:=.v .b
abbrev fP.s:fP:=.v .s
abbrev fP.l(e:TypeId)(r:ak):fP:=.v (.l e r)
abbrev gV.i:gV:=.p .i
abbrev gV.b:gV:=.p .b
abbrev gV.s:gV:=.p .s
abbrev gV.l(e:TypeId)(r:ak):gV:=.p (.l e r)
abbrev RC.i:RC:=.c .i
abbrev RC.b:RC:=.c .b
abbrev RC.s:RC:=.c .s
abbrev RC.l(e:TypeId)(r:ak):RC:=.c (.l e r)
abbrev RC.f(e:TypeId)(r:ak):RC:=.c (.f e r)
abbrev lq.i:lq:=.one .i
abbrev lq.b:lq:=.one .b
abbrev lq.s:lq:=.one .s
abbrev lq.l(e:TypeId)(r:ak):lq:=.one (.l e r)
abbrev lq.f(e:TypeId)(r:ak):lq:=.one (.f e r)
abbrev lq.o(e:TypeId)(r:ak):lq:=.one (.own e r true)
end Go.Fw
namespace Go.Fw
open Go
variable {P:Program} {G:iQ} {f:FuncId}
abbrev rD:List UInt8:=[]
abbrev Fb:List (Int×Unit):=[]
theorem ja.weaken{con aft:O5}(h:ja P G f con)(hc:∀args p out,aft args=some (p,out)->p->∃q,con args=some (q,out)/\q):ja P G f aft:=by intro args p out k S vs w hcon hp hG hrep;obtain⟨q,h1,h2⟩:=hc args p out hcon hp;exact h args q out k S vs w h1 h2 hG hrep
theorem BG.weaken{con aft:Qs}(h:BG P G f con)(hc:∀args p ρ,aft args=some (p,ρ)->p->∃q,con args=some (q,ρ)/\q):BG P G f aft:=by intro args p ρ hcon hp;obtain⟨q,h1,h2⟩:=hc args p ρ hcon hp;exact h args q ρ h1 h2
theorem ajr{sh:List fP}{bZ:List kX}{F:kD sh->Prop×qU bZ}(Fr Fs:Nat->kD sh->Prop×qU bZ)(h0:∀x,¬(Fr 0 x).1)(hs:∀n x,Fr (n+1) x=Fs n x)
 (hf:∀x,(F x).1->∃n,(Fr n x).1) (he:∀n x,(Fr n x).2=(F x).2) (step:∀n,ja P G f (nV sh bZ (Fr n))->ja P G f (nV sh bZ (Fs n))):ja P G f (nV sh bZ F):=by
 have all:∀n,ja P G f (nV sh bZ (Fr n)):=by
  intro n
  induction n with
  |zero=>
   intro args p out k S vs w hcon hp;unfold nV FI at hcon
   grind
  |succ n ih=>
   have e:Fr (n+1)=Fs n:=funext (hs n)
   grind
 intro args p out k S vs w hcon hp hG hrep;have aeB:=hcon;unfold nV FI at aeB;split at aeB
 .next x hx=>
  have e:=Option.some.inj aeB;have e1:(F x).1=p:=congrArg Prod.fst e;obtain⟨n,hn⟩:=hf x (e1.symm▸hp);refine all n args (Fr n x).1 out k S vs w ?_ hn hG hrep
  simp_all [nV,FI]
 .cases aeB
end Go.Fw
namespace Go.Fw
open Go
variable {P:Program} {H:Type} {enc:TypeId×Value->H} {w:World}
def ak.app:ak->ak->ak
 |.nil,s=>s
 |.cons c r,s=>.cons c (r.app s)
def ah3:(r s:ak)->r.den->s.den->(r.app s).den
 |.nil,_,_,y=>y
 |.cons _ r,s,x,y=>(x.1,ah3 r s x.2 y)
theorem aX.app{h:Array Obj}{S:Nat->Prop}:∀(r s:ak)(x:r.den)(y:s.den)(vs us:List Value),aX h S r vs x->aX h S s us y->aX h S (r.app s) (vs++us) (ah3 r s x y)
 |.nil,s,x,y,vs,us,h1,h2=>by subst h1;exact h2
 |.cons c r,s,(x,x'),y,vs,us,h1,h2=>by obtain⟨v,vs',rfl,g1,g2⟩:=h1;exact⟨v,vs'++us,rfl,g1,aX.app r s x' y vs' us g2 h2⟩
theorem add_add(a:Addr)(h:a.spot=none)(m j:Nat):(a.add m).add j=⟨a.block,a.off+m+j,none⟩:=by
 obtain⟨b,o,sp⟩:=a
 grind [Addr.add]
def JI(f:TypeId->Option ak):List Field->Nat->Option ak
 |[],_=>some .nil
 |x::r,off=>match f x.type with
  |some s=>match JI f r (off+s.len),Nat.beq x.offset off with
   |some u,true=>some (s.app u)
   |_,_=>none
  |none=>none
def rowOf(P:Program):Nat->TypeId->Option ak
 |0,_=>none
 |n+1,t=>match P.underlying t with
  |some (.int k)=>some (.cons (.int k) .nil)
  |some .bool=>some (.cons .bool .nil)
  |some .string=>some (.cons .str .nil)
  |some (.slice e)=>match rowOf P n e with
   |some s=>match Nat.beq s.len (P.cellsOf e)&&Nat.ble 1 s.len with
    |true=>some (.cons (.sl e s) .nil)
    |false=>none
   |none=>none
  |some (.struct fs)=>match JI (rowOf P n) fs.toList 0 with
   |some r=>match Nat.beq r.len (P.cellsOf t)with
    |true=>match fs.toList.all λf=>match rowOf P n f.type with|some s=>Nat.beq s.len (P.cellsOf f.type)|none=>false with
     |true=>some r
     |false=>none
    |false=>none
   |none=>none
  |_=>none
theorem ahg{α:Type}{Q:Nat->α->Prop}:∀(n:Nat),(∀i,i<n->∃x,Q i x)->∃l:List α,l.length=n/\∀i x,l[i]? =some x->Q i x
 |0,_=>⟨[],rfl,λi x h=>by simp at h⟩
 |n+1,h=>by
  obtain⟨l,hl,hq⟩:=ahg n λi hi=>h i (by omega);obtain⟨x,hx⟩:=h n (by omega);refine⟨l++[x],by simp[hl],λi y hy=>?_⟩
  grind
theorem ahh:∀(r s:ak),(r.app s).len=r.len+s.len
 |.nil,s=>by simp[ak.app,ak.len]
 |.cons c r,s=>by simp only[ak.app,ak.len,ahh r s];omega
theorem YP{f:TypeId->Option ak}{S:Nat->Prop}{h:Array Obj}(cs:List Value)
 (part:∀(t:TypeId)(r:ak)(off:Nat),f t=some r->(∃g:Field,g.type=t/\g.offset=off)->True):∀(fs:List Field)(off:Nat)(r:ak),JI f fs off=some r->
 (∀g∈fs,∀s,f g.type=some s->∃x,aX h S s ((cs.drop g.offset).take s.len) x)->
 ∃x,aX h S r ((cs.drop off).take r.len) x
 |[],off,r,hr,_=>by
  cases hr
  simp_all [aX,ak.len]
 |g::fs,off,r,hr,hall=>by
  rw[JI]at hr;split at hr
  .next s hs=>
   split at hr
   .next u hu hb=>
    cases hr;obtain⟨x,hx⟩:=hall g arj s hs;rw[aq3 hb]at hx;obtain⟨y,hy⟩:=YP cs part fs (off+s.len) u hu λg' hg'=>hall g' (ard _ hg');refine⟨ah3 s u x y,?_⟩
    grind [aX.app,ahh,List.drop_drop]
   .cases hr
  .cases hr
theorem Ws:∀(n:Nat)(t:TypeId)(r:ak),rowOf P n t=some r->∀(m:Nat)(base:Nat)(spare:Nat->Bool)(held:Bool)(cs:List Value)(x:DataW H×List MemPlace),
 DataW.trod enc P w base spare held m t cs=some x->∃y,aX w.heap (λb=>b<w.heap.size) r cs y
 |0,t,r,hr=>by cases hr
 |n+1,t,r,hr=>by
  intro m base spare held cs x hx;rw[rowOf]at hr;split at hr
  .next k hu=>
   cases hr;obtain⟨i,rfl,_,hwf⟩:=DataW.trod_int hu hx
   simp_all [Lit.wf,aX,cZ]
  .next hu=>
   cases hr;obtain⟨b,rfl,_⟩:=DataW.trod_bool hu hx
   simp_all [aX,cZ]
  .next hu=>cases hr;obtain⟨s,rfl,_,hs⟩:=DataW.trod_string hu hx;refine⟨(s.data.toList,()),by simp_all [aX,cZ]⟩
  .next e hu=>
   split at hr
   .next s hs=>
    split at hr
    .next hb=>
     cases hr;rw[aq5]at hb;have hlen:=aq3 hb.1;have hpos:1<=s.len:=by simp_all
     rcases DataW.trod_slice hu hx with⟨rfl,_⟩|⟨a,len,cap,elems,rest,k,_,rfl,_,hbase,hle,hmax,hel,hrow,_,_⟩
     .exact⟨([],()),by rw[aX];exact⟨_,[],rfl,by rw[cZ];exact⟨by simp,.inl ⟨rfl,none,0,rfl⟩⟩,by rw[aX]⟩⟩
     .by_cases h0:len=0
      .subst h0;exact⟨([],()),by rw[aX];exact⟨_,[],rfl,by rw[cZ];exact⟨by simp,.inl ⟨rfl,some a,cap,rfl⟩⟩,by rw[aX]⟩⟩
      .have each:∀i,i<len->∃(ys:List Value)(z:s.den),w.cells? base (a.add (i*P.cellsOf e)) (P.cellsOf e)=some ys/\aX w.heap (λb=>b<w.heap.size) s ys z:=by
        intro i hi;have h1:=hrow i hi;rw[aq8 (by omega)]at h1;obtain⟨ys,hys,hy2⟩:=Option.bind_eq_some_iff.1 h1;obtain⟨z,hz⟩:=Ws n e s hs k base spare held ys _ hy2
        grind
       obtain⟨ys0,z0,hc0,hz0⟩:=each 0 (by omega);obtain⟨_,hl0,hcell0⟩:=World.cells?_some hc0;have Wu:=hcell0 0 (by omega);simp only[Nat.zero_mul,Addr.add,if_true]at Wu;have ao5:∃v,ys0[0]? =some v:=⟨ys0[0]'(by omega),by grind⟩;obtain⟨v0,hv0⟩:=ao5;rw[hv0]at Wu;unfold World.cell? at Wu;split at Wu
       .next c ty fz hblk=>
        split at Wu
        .cases Wu
        .next hsp=>
         have hspot:a.spot=none:=by simp_all
         have ha:a=⟨a.block,a.off,none⟩:=by cases a;grind
         have hb':a.block<w.heap.size:=by
          grind
         have rows:∀i,i<len->∃z:s.den,aX w.heap (λb=>b<w.heap.size) s ((c.toList.drop (a.off+i*s.len)).take s.len) z:=by
          intro i hi;obtain⟨ys,z,hcs,hz⟩:=each i hi;obtain⟨_,hl,hcell⟩:=World.cells?_some hcs;refine⟨z,?_⟩;have:(c.toList.drop (a.off+i*s.len)).take s.len=ys:=by
           refine ar8 λj=>?_
           grind [add_add,World.cell?]
          grind
         obtain⟨l,hll,hlq⟩:=ahg len rows;refine⟨(l,()),by rw[aX];exact⟨_,[],rfl,by rw[cZ];exact⟨by omega,.inr ⟨a.block,a.off,cap,c,ty,fz,by grind,by omega,hb',hblk,hlq⟩⟩,by rw[aX]⟩⟩
       .cases Wu
    .cases hr
   .cases hr
  .next fs hu=>
   split at hr
   .next r' hf=>
    split at hr
    .next hb=>
     split at hr
     .next hall=>
      cases hr;obtain⟨xs,k,_,_,hcl,hxl,hparts⟩:=DataW.trod_struct hu hx;have hlen:=aq3 hb;have:=YP (h:=w.heap) (S:=λb=>b<w.heap.size) cs (λ_ _ _ _ _=>trivial) fs.toList 0 _ hf ?_
      · grind
      .intro g hg s hs;have hg2:=arv.1 hall g hg;rw[hs]at hg2;have hsl:=aq3 hg2;obtain⟨i,hi,hgi⟩:=asZ.1 hg;have hp:=hparts i g (by grind);rw[aq8 (by grind)]at hp;rw[hsl];exact Ws n g.type s hs k base spare held _ _ hp
     .cases hr
    .cases hr
   .cases hr
  .cases hr
def CT.csh:CT->eG
 |.int k=>.int k
 |.bool=>.bool
 |.str=>.str
 |.sl e r=>.sl e r false
def toC:(c:CT)->c.den->c.csh.den
 |.int _,x=>x
 |.bool,x=>x
 |.str,x=>x
 |.sl _ _,x=>x
def ak.shs:ak->List eG
 |.nil=>[]
 |.cons c r=>c.csh::r.shs
def toCs:(r:ak)->r.den->jU r.shs
 |.nil,_=>()
 |.cons c r,x=>(toC c x.1,toCs r x.2)
theorem abD(X:V):∀(r:ak)(vs:List Value)(x:r.den),aX X.w.heap (X.bP false) r vs x->ai X (fQ r.shs (toCs r x)) vs
 |.nil,vs,x,h=>by subst h;trivial
 |.cons c r,vs,(x,y),h=>by
  obtain⟨v,vs',rfl,h1,h2⟩:=h;refine⟨?_,abD X r vs' y h2⟩;cases c with
  |int k=>exact h1
  |bool=>exact h1
  |str=>exact h1
  |sl e r=>exact h1
def ah4(P:Program)(t:TypeId):Option kX:=
 match rowOf P 64 t with
 |some r=>match P.underlying t with
  |some (.struct _)=>some (.agg r.shs)
  |some (.array _ _)=>none
  |_=>match r with
   |.cons c .nil=>some (.one c.csh)
   |_=>none
 |none=>none
def Iu(P:Program):List TypeId->Option (List fP)
 |[]=>some []
 |t::ts=>match ah4 P t,Iu P ts with
  |some s,some l=>some (.v s::l)
  |_,_=>none
def start(w:World):V:=⟨w,w.heap.size,λb=>b<w.heap.size,λ_=>undef,λ_=>none⟩
theorem al2{t:TypeId}{s:kX}(hs:ah4 P t=some s){base base':Nat}{sp:Nat->Bool}{hd:Bool}{v:Value}{d:DataW H}{p:List MemPlace}
 (ht:DataW.Trod enc P w base sp hd t v d p) (hv:Value.okWide P w .any base' t v):∃x:s.den,cO (start w) (s.val x) v:=by
 unfold ah4 at hs;split at hs
 .next r hr=>
  obtain⟨m,hm⟩:=ht;obtain⟨y,hy⟩:=Ws 64 t r hr m base sp hd _ _ hm;have hy':aX (start w).w.heap ((start w).bP false) r v.cells.toList y:=
   aX.mono (λb hb=>⟨⟨⟨hb,λ_=>hb,λo x hx=>by cases hx⟩,λe=>by cases e⟩,rfl⟩) r _ y hy
  unfold Value.okWide at hv;split at hs
  .next fs hu=>cases hs;rw[hu]at hv;obtain⟨cs,rfl,_,_⟩:=hv;exact⟨toCs r y,cs,rfl,abD (start w) r _ y hy'⟩
  .cases hs
  .next hns hna=>
   split at hs
   .next c=>
    cases hs;have hcell:v.cells=#[v]:=by
     cases hv2:v<;>first
      |rfl
      |(exfalso
        rw[hv2]at hv;split at hv
        · grind
        · grind
        .unfold Go.Cell.okWide at hv;split at hv<;>first|(done)|(rename_i h2;cases h2;done)|skip;unfold Go.Cell.ok at hv;split at hv<;>first|(rename_i h1 h2;cases h2;done)|exact hv)
    have:=abD (start w) _ _ y hy';rw[hcell]at this;exact⟨toC c y.1,this.1⟩
   .cases hs
 .cases hs
theorem afu:∀(ts:List TypeId)(sh:List fP),Iu P ts=some sh->∀{base base':Nat}{sp:Nat->Bool}{hd:Bool}(vs:List Value)(ds:List (DataW H))(p:List MemPlace),
 DataW.TrodAll enc P w base sp hd ts vs ds p->(∀(j:Nat) t v,ts[j]? =some t->vs[j]? =some v->Value.okWide P w .any base' t v)->∃x:kD sh,lG (start w) (qH sh x) vs
 |[],sh,hs,_,_,_,_,vs,ds,p,h,_=>by
  cases hs;cases vs with
  |nil=>exact⟨(),trivial⟩
  |cons v vs=>cases ds<;>simp[DataW.TrodAll]at h
 |t::ts,sh,hs,base,base',sp,hd,vs,ds,p,h,hok=>by
  rw[Iu]at hs;split at hs
  .next s l h1 h2=>
   cases hs;cases vs with
   |nil=>cases ds<;>simp[DataW.TrodAll]at h
   |cons v vs=>
    cases ds with
    |nil=>simp[DataW.TrodAll]at h
    |cons d ds=>obtain⟨a,b,g1,g2,_⟩:=h;obtain⟨x,hx⟩:=al2 h1 g1 (hok 0 t v rfl rfl);obtain⟨y,hy⟩:=afu ts l h2 vs ds b g2 λj t' v' ht' hv'=>hok (j+1) t' v' (by simpa using ht') (by simpa using hv');exact⟨(x,y),hx,hy⟩
  .cases hs
mutual
theorem CT.Iw:∀(c:CT),c.beq c=true
 |.int k=>by simp[CT.beq]
 |.bool=>rfl
 |.str=>rfl
 |.sl e r=>by simp[CT.beq,ak.Iw r]
theorem ak.Iw:∀(r:ak),r.beq r=true
 |.nil=>rfl
 |.cons c r=>by simp[ak.beq,CT.Iw c,ak.Iw r]
end
theorem ads:∀(c:eG)(x:c.den),c.read (c.cell x)=some x
 |.int k,x=>by simp[eG.cell,eG.read]
 |.bool,x=>rfl
 |.str,x=>rfl
 |.sl e r fr,l=>by
  simp only[eG.cell,eG.read,ar4];have h1:Io fr fr=true:=by cases fr<;>rfl
  have h2:r.beq r=true:=ak.Iw r;rw[h1];rw[dif_pos h2];rfl
 |.nil,x=>rfl
 |.ref o,x=>by simp[eG.cell,eG.read]
 |.junk,x=>rfl
theorem YQ:∀(l:List eG)(x:jU l),iT l (fQ l x)=some x
 |[],_=>rfl
 |c::r,x=>by rw[fQ,iT,ads c x.1,YQ r x.2]
theorem afv:∀(ts:List TypeId)(l:List fP),Iu P ts=some l->∀(x:kD l),Eh l (qH l x)=some x
 |[],l,h,x=>by cases h;rfl
 |t::ts,l,h,x=>by
  rw[Iu]at h;split at h
  .next s r h1 h2=>
   cases h;have ih:=afv ts r h2 x.2;cases s with
   |one c=>
    have e:(fP.v (.one c)).read ((fP.v (.one c)).val x.1)=some x.1:=ads c x.1;rw[qH,Eh,ih,e]
   |agg l=>have e:(fP.v (.agg l)).read ((fP.v (.agg l)).val x.1)=some x.1:=YQ l x.1;rw[qH,Eh,ih,e]
  .cases h
def abE:Out:=⟨[(false,[.plain (.bool true)])],none⟩
theorem ajs{G:iQ}{f:FuncId}{fn:Func}{sh:List fP}{F:kD sh->Prop×Out}(hcon:ja P G f (FI sh F))(hsh:Iu P fn.params.toList=some sh)
 (hF:∀x,GX sh x->(F x).1/\(F x).2=abE) (hG:G.ok w) {base base':Nat} {sp:Nat->Bool} {hd:Bool} {args:Array Value} {ds:List (DataW H)} {p:List MemPlace}
 (hA:DataW.TrodAll enc P w base sp hd fn.params.toList args.toList ds p) (hok:∀(j:Nat) t v,fn.params[j]? =some t->args[j]? =some v->Value.okWide P w .any base' t v):
 Calls P f args w λe w'=>e=.returned (.bool true)/\w'.os=w.os/\w'.output=w.output/\w.heap.size<=w'.heap.size/\∀b,b<w.heap.size->w'.heap[b]? =w.heap[b]? :=by
 obtain⟨x,hx⟩:=afu _ _ hsh _ _ _ hA λj t v ht hv=>hok j t v (by simpa using ht) (by simpa using hv);have hin:=zB sh x _ hx;obtain⟨hp,ho⟩:=hF x hin;have hc:FI sh F (qH sh x)=some ((F x).1,abE):=by
  grind [FI,afv]
 refine(hcon (qH sh x) _ _ 0 _ args w hc hp hG hx).mono ?_;rintro e w' ⟨v,vals,rfl,h1,h2,h3,h4,h5,h6,_,_⟩;have hv:v=.bool true:=h6
 grind
theorem ako{w w':World}(h1:w'.os=w.os)(h3:w'.output=w.output)(h5:∀b,b<w.heap.size->w'.heap[b]? =w.heap[b]?)(may:MemPlace->Prop):w.keptBut w' may:=by
 refine⟨h1,h3,λi hi=>?_⟩
 grind
theorem akp{w w':World}(h5:∀b,b<w.heap.size->w'.heap[b]? =w.heap[b]?){p:MemPlace}(hp:p.block<w.heap.size):w.sameAt w' p:=by
 cases p with
 |cell b off=>
  show w'.cell? _=w.cell? _;unfold World.cell?;rw[h5 b hp]
 |map b=>exact h5 b hp
end Go.Fw
namespace Go.Fw
open Go
variable {P:Program} {G:iQ} {f:FuncId}
theorem lY.mono{X Y:V}(h:X.le Y):∀(a:Arg)(v:Value),lY X a v->lY Y a v
 |.sv x,v,H=>cO.mono h x v H
 |.kp cs,v,H=>aP.mono h (.dS cs 0) v H
 |.fn f caps,v,H=>aP.mono h (.fn f caps) v H
 |.own _ _ _,_,H|.ptr _,_,H=>H.elim
theorem Ih.mono{X Y:V}(h:X.le Y)(i:Nat):∀(a:Arg)(v:Value),Ih X i a v->Ih Y i a v
 |.own _ _ _,v,H=>aN.mono h (.ref (i*64+49)) v H
 |.ptr _,v,H=>aP.mono h (.dU (i*64+48) 0) v H
 |.sv x,v,H=>lY.mono h (.sv x) v H
 |.kp cs,v,H=>lY.mono h (.kp cs) v H
 |.fn f caps,v,H=>lY.mono h (.fn f caps) v H
theorem wO.nil{X Y:V}(h:X.le Y){e:TypeId}{r:ak}:∀(args:List Arg)(vs:List Value)(j i:Nat),args[i]? =some (.sv (.one .nil))->
 Y.ah ((j+i)*64+49)=some (.arr e r [] false)->Y.γ ((j+i)*64+49)=.slice none 0 0->wO X j args vs->wO Y j (args.set i (.own e r [])) vs
 |[],[],_,i,ha,_,_,_=>by simp at ha
 |[],_::_,_,_,_,_,_,H=>H.elim
 |_::_,[],_,_,_,_,_,H=>H.elim
 |a::args,v::vs,j,0,ha,ho,hγ,⟨h1,h2⟩=>by
  have ha:a=.sv (.one .nil):=by simpa using ha
  subst ha;have hv:v=.slice none 0 0:=h1;refine⟨⟨⟨e,r,[],false,ho⟩,?_,by rw[hv];rfl⟩,?_⟩
  · grind
  .clear h1 ha ho hγ hv;generalize j+1=k at h2
   induction args generalizing k vs with
   |nil=>cases vs with
    |nil=>trivial
    |cons _ _=>exact h2.elim
   |cons b args ih=>cases vs with
    |nil=>exact h2.elim
    |cons u vs=>exact⟨Ih.mono h k b u h2.1,ih vs (k+1) h2.2⟩
 |a::args,v::vs,j,i+1,ha,ho,hγ,⟨h1,h2⟩=>by
  have e1:j+(i+1)=j+1+i:=by omega
  rw[e1]at ho hγ;exact⟨Ih.mono h j a v h1,wO.nil h args vs (j+1) i (by simpa using ha) ho hγ h2⟩
end Go.Fw
namespace Go.Fw
open Go
theorem af{b:Bool}{A B:Prop}(h1:b=true->A)(h2:b=false->B):cond b A B:=by
 grind
theorem drop_cons{α:Type}(a:List α)(n:Nat)(d:α)(h:n<a.length):a.drop n=a.getD n d::a.drop (n+1):=by
 simp_all
theorem gm(z:Int)(h:-9223372036854775808<=z/\z<=9223372036854775807):IntKind.i64.wrap z=z:=IntWalk.i64_in z (by omega)
theorem maxLen_eq:maxLen=9223372036854775807:=by decide
theorem dw:big=4294967296:=rfl
theorem getD_mem{α:Type}{l:List α}{n:Nat}{d:α}(h:n<l.length):l.getD n d∈l:=by
 grind
end Go.Fw
namespace Go.Fw
open Go
end Go.Fw
namespace Go.Fw
open Go Go.RowKit
def jq:Value->Prop
 |.int _ _=>True
 |.bool _=>True
 |.string _=>True
 |_=>False
def LV(v u:Value):Prop:=v=u\/jq v/\jq u
theorem LV.trans{a b c:Value}(h:LV a b)(k:LV b c):LV a c:=by
 rcases h with rfl|⟨h1,h2⟩
 .exact k
 .rcases k with rfl|⟨k1,k2⟩
  .exact .inr ⟨h1,h2⟩
  .exact .inr ⟨h1,k2⟩
theorem LV.jq{v u:Value}(h:LV v u)(k:Fw.jq v):Fw.jq u:=by
 rcases h with rfl|⟨_,h2⟩
 .exact k
 .exact h2
theorem LV.slice{a:Option Addr}{n c:Nat}{u:Value}(h:LV (.slice a n c) u):u=.slice a n c:=by
 rcases h with rfl|⟨h,_⟩
 .rfl
 .cases h
def Wv(vs us:List Value):Prop:=vs.length=us.length/\∀(i:Nat)(v:Value),vs[i]? =some v->∃u,us[i]? =some u/\LV v u
theorem Wv.cons{v:Value}{vs us:List Value}(h:Wv (v::vs) us):∃u us',us=u::us'/\LV v u/\Wv vs us':=by
 obtain⟨h1,h2⟩:=h;cases us with
 |nil=>cases h1
 |cons u us=>refine⟨u,us,rfl,?_,Nat.succ.inj h1,λi w hw=>h2 (i+1) w hw⟩;obtain⟨u',e,h⟩:=h2 0 v rfl;cases e;exact h
structure aF(P:Nat->Prop)(W w:World):Prop where
 os:w.os=W.os
 tape:w.tape=W.tape
 output:w.output=W.output
 size:W.heap.size<=w.heap.size
 block:∀b,b<W.heap.size->¬P b->w.heap[b]? =W.heap[b]?
 cells:∀(b:Nat)(cs:Array Value)(t:TypeId)(fz:Nat×Nat),W.heap[b]? =some (Obj.cells cs t fz)->∃cs':Array Value,w.heap[b]? =some (Obj.cells cs' t fz)/\cs'.size=cs.size/\∀(i:Nat)(v:Value),cs[i]? =some v->∃u,cs'[i]? =some u/\LV v u
theorem aF.refl(P:Nat->Prop)(W:World):aF P W W:=⟨rfl,rfl,rfl,ara _,λ_ _ _=>rfl,λ_ cs _ _ h=>⟨cs,h,rfl,λ_ v hv=>⟨v,hv,.inl rfl⟩⟩⟩
theorem aF.trans{P:Nat->Prop}{a b c:World}(h:aF P a b)(k:aF P b c):aF P a c:=
 ⟨k.os.trans h.os,k.tape.trans h.tape,k.output.trans h.output,aq7 h.size k.size,λx hx hp=>(k.block x (ari hx h.size) hp).trans (h.block x hx hp),λx cs t fz hx=>by obtain⟨c1,h1,h2,h3⟩:=h.cells x cs t fz hx;obtain⟨c2,k1,k2,k3⟩:=k.cells x c1 t fz h1;refine⟨c2,k1,k2.trans h2,λi v hv=>?_⟩;obtain⟨u,hu,s1⟩:=h3 i v hv;obtain⟨u',hu',s2⟩:=k3 i u hu;exact⟨u',hu',s1.trans s2⟩⟩
theorem aF.of{P:Nat->Prop}{a b:World}(h:Below a.heap.size a b):aF P a b:=
 ⟨h.os,h.tape,h.output,h.size,λx hx _=>h.block x hx,λx cs _ _ hx=>⟨cs,(h.block x (aq6.1 hx).1).trans hx,rfl,λ_ v hv=>⟨v,hv,.inl rfl⟩⟩⟩
theorem dO(P:Nat->Prop)(W:World)(o:Obj):aF P W (W.alloc o):=aF.of ((Below.refl _ _).alloc (ara _) o)
theorem bH{w:World}{g:Nat}{cur:Array Value}{t:TypeId}{fz:Nat×Nat}(h:w.heap[g]? =some (.cells cur t fz))(k:Nat):w.cell? ⟨g,k,none⟩=cur[k]? :=by simp[World.cell?,h]
theorem iM{w:World}{g:Nat}{cur:Array Value}{t:TypeId}{fz:Nat×Nat}(h:w.heap[g]? =some (.cells cur t fz)){k:Nat}(hk:¬(fz.1<=k/\k<fz.2)):w.frozen? ⟨g,k,none⟩=false:=by obtain⟨lo,hi⟩:=fz;simp only[World.frozen?,h];simp only[Bool.and_eq_false_iff,arC];omega
theorem ahi{w:World}{p:Addr}{b:Nat}(v:Value)(h:b≠p.block):(w.setCell p v).heap[b]? =w.heap[b]? :=by simp only[World.setCell,Array.getElem?_modify,if_neg (as5 h)]
theorem abG{w:World}{g:Nat}{cur:Array Value}{t:TypeId}{fz:Nat×Nat}(h:w.heap[g]? =some (.cells cur t fz))(k:Nat)(v:Value):(w.setCell ⟨g,k,none⟩ v).heap[g]? =some (.cells (cur.setIfInBounds k v) t fz):=by simp only[World.setCell,Array.getElem?_modify,if_pos,h];rfl
theorem aF.set{P:Nat->Prop}{W:World}{g i:Nat}{u:Value}(v:Value)(hr:W.cell? ⟨g,i,none⟩=some u)(hu:jq u)(hp:P g)(hv:jq v):aF P W (W.setCell ⟨g,i,none⟩ v):=
 ⟨rfl,rfl,rfl,by simp[World.setCell],λb _ hb=>ahi v (λe=>hb (e▸hp)),λb cs t' fz hb=>by
   by_cases e:b=g
   .subst e;refine⟨_,abG hb i v,Array.size_setIfInBounds,λj x hj=>?_⟩;by_cases hij:i=j
    .subst hij;rw[bH hb,hj]at hr;cases hr;exact⟨v,by rw[asN,if_pos (aq6.1 hj).1],.inr ⟨hu,hv⟩⟩
    .exact⟨x,by rw[asU hij];exact hj,.inl rfl⟩
   .exact⟨cs,(ahi v e).trans hb,rfl,λ_ v hv=>⟨v,hv,.inl rfl⟩⟩⟩
theorem aF.slice{P:Nat->Prop}{W w:World}{g i:Nat}{a:Option Addr}{n c:Nat}(h:aF P W w)(hc:W.cell? ⟨g,i,none⟩=some (.slice a n c)):w.cell? ⟨g,i,none⟩=some (.slice a n c):=by
 rcases hW:W.heap[g]? with _|o
 .simp[World.cell?,hW]at hc
 .cases o with
  |cells cs t fz=>
   obtain⟨cs',h1,_,h3⟩:=h.cells g cs t fz hW;rw[bH hW]at hc;obtain⟨u,hu,hs⟩:=h3 i _ hc;rw[bH h1,hu,hs.slice]
  |_=>simp[World.cell?,hW]at hc
theorem aF.jq{P:Nat->Prop}{W w:World}{g i:Nat}{v:Value}(h:aF P W w)(hc:W.cell? ⟨g,i,none⟩=some v)(hs:Fw.jq v):∃u,w.cell? ⟨g,i,none⟩=some u/\Fw.jq u:=by
 rcases hW:W.heap[g]? with _|o
 .simp[World.cell?,hW]at hc
 .cases o with
  |cells cs t fz=>
   obtain⟨cs',h1,_,h3⟩:=h.cells g cs t fz hW;rw[bH hW]at hc;obtain⟨u,hu,hs'⟩:=h3 i _ hc;exact⟨u,(bH h1 i).trans hu,hs'.jq hs⟩
  |_=>simp[World.cell?,hW]at hc
theorem aF.fz{P:Nat->Prop}{W w:World}{g i:Nat}{v:Value}(h:aF P W w)(hc:W.cell? ⟨g,i,none⟩=some v)(hf:W.frozen? ⟨g,i,none⟩=false):w.frozen? ⟨g,i,none⟩=false:=by
 rcases hW:W.heap[g]? with _|o
 .simp[World.cell?,hW]at hc
 .cases o with
  |cells cs t fz=>
   obtain⟨cs',h1,_,h3⟩:=h.cells g cs t fz hW;simp only[World.frozen?,hW]at hf;simp only[World.frozen?,h1,hf]
  |_=>simp[World.cell?,hW]at hc
theorem aF.mono{P Q:Nat->Prop}{W w:World}(h:aF P W w)(hq:∀b,b<W.heap.size->P b->Q b):aF Q W w:=⟨h.os,h.tape,h.output,h.size,λb hb hn=>h.block b hb λe=>hn (hq b hb e),h.cells⟩
theorem aF.jr{P:Nat->Prop}{G:iQ}{W w:World}(h:aF P W w)(hG:G.ok W)(hP:∀b,P b->G.n<=b):G.ok w:=
 G.stable W w hG h.size λb hb=>h.block b (ari hb (G.low W hG)) λhp=>by have:=hP b hp;omega
def ao6{α:Type}(h:Array Obj)(S:Nat->Prop)(size:Nat)(rep:List Value->α->Prop)(v:Value)(l:List α):Prop:=
 (l=[]/\∃a c,v=.slice a 0 c)\/
  ∃b off cap cs t fz,v=.slice (some ⟨b,off,none⟩) l.length cap/\l.length<=cap/\S b/\h[b]? =some (.cells cs t fz)/\(∀k,k<cs.size->¬(fz.1<=k/\k<fz.2))/\
   ∀i x,l[i]? =some x->rep ((cs.toList.drop (off+i*size)).take size) x
mutual
def iC(h:Array Obj)(S:Nat->Prop):(c:CT)->Value->c.den->Prop
 |.int _,v,_=>jq v
 |.bool,v,_=>jq v
 |.str,v,_=>jq v
 |.sl _ r,v,(l:List r.den)=>ao6 h S r.len (λvs x=>ShR h S r vs x) v l
def ShR(h:Array Obj)(S:Nat->Prop):(r:ak)->List Value->r.den->Prop
 |.nil,vs,_=>vs=[]
 |.cons c r,vs,(x,y)=>∃v vs',vs=v::vs'/\iC h S c v x/\ShR h S r vs' y
end
mutual
theorem iC.of{w:World}{S:Nat->Prop}(hu:∀b,S b->unf w b):∀(c:CT)(v:Value)(x:c.den),cZ w.heap S c v x->iC w.heap S c v x
 |.int k,v,(n:Int),H=>by rw[cZ]at H;rw[iC,H.1];trivial
 |.bool,v,(b:Bool),H=>by rw[cZ]at H;rw[iC,H];trivial
 |.str,v,(s:Bytes),H=>by rw[cZ]at H;rw[iC,H.1];trivial
 |.sl _ r,v,(l:List r.den),H=>by
  rw[cZ]at H;rw[iC];rcases H.2 with h|⟨b,off,cap,cs,t,fz,h1,h2,h3,h4,h5⟩
  .exact .inl h
  .exact .inr ⟨b,off,cap,cs,t,fz,h1,h2,h3,h4,hu b h3 cs t fz h4,λi x hx=>ShR.of hu r _ x (h5 i x hx)⟩
theorem ShR.of{w:World}{S:Nat->Prop}(hu:∀b,S b->unf w b):∀(r:ak)(vs:List Value)(x:r.den),aX w.heap S r vs x->ShR w.heap S r vs x
 |.nil,vs,_,H=>by simpa[aX,ShR]using H
 |.cons c r,vs,(x,y),H=>by rw[aX]at H;rw[ShR];obtain⟨v,vs',e,h1,h2⟩:=H;exact⟨v,vs',e,iC.of hu c v x h1,ShR.of hu r vs' y h2⟩
end
theorem Wv.sub{cs cs':Array Value}(hs:cs'.size=cs.size)(h:∀(i:Nat)(v:Value),cs[i]? =some v->∃u,cs'[i]? =some u/\LV v u)(a n:Nat):Wv ((cs.toList.drop a).take n) ((cs'.toList.drop a).take n):=by
 refine⟨by simp[hs],λi v hv=>?_⟩;rw[arR]at hv ⊢;split at hv
 · rename_i hi
   rw[if_pos hi];rw[arV,Array.getElem?_toList]at hv ⊢;exact h _ v hv
 .cases hv
mutual
theorem iC.soft{P S:Nat->Prop}{W w:World}(s:aF P W w):∀(c:CT)(v u:Value)(x:c.den),LV v u->iC W.heap S c v x->iC w.heap S c u x
 |.int k,v,u,(n:Int),hs,H=>by rw[iC]at H ⊢;exact hs.jq H
 |.bool,v,u,(b:Bool),hs,H=>by rw[iC]at H ⊢;exact hs.jq H
 |.str,v,u,(_:Bytes),hs,H=>by rw[iC]at H ⊢;exact hs.jq H
 |.sl _ r,v,u,(l:List r.den),hs,H=>by
  rw[iC]at H ⊢;rcases H with⟨h,a,c,rfl⟩|⟨b,off,cap,cs,t,fz,rfl,h2,h3,h4,h5,h6⟩
  .exact .inl ⟨h,a,c,hs.slice⟩
  .obtain⟨cs',k1,k2,k3⟩:=s.cells b cs t fz h4;exact .inr ⟨b,off,cap,cs',t,fz,hs.slice,h2,h3,k1,λk hk=>h5 k (k2▸hk),λi x hx=>ShR.soft s r _ _ x (Wv.sub k2 k3 _ _) (h6 i x hx)⟩
theorem ShR.soft{P S:Nat->Prop}{W w:World}(s:aF P W w):∀(r:ak)(vs us:List Value)(x:r.den),Wv vs us->ShR W.heap S r vs x->ShR w.heap S r us x
 |.nil,vs,us,_,hs,H=>by
  rw[ShR]at H ⊢;subst H;exact arP.1 hs.1.symm
 |.cons c r,vs,us,(x,y),hs,H=>by rw[ShR]at H ⊢;obtain⟨v,vs',rfl,h1,h2⟩:=H;obtain⟨u,us',rfl,k1,k2⟩:=hs.cons;exact⟨u,us',rfl,iC.soft s c v u x k1 h1,ShR.soft s r vs' us' y k2 h2⟩
end
theorem iC.keep{P S:Nat->Prop}{W w:World}{c:CT}{v:Value}{x:c.den}(h:iC W.heap S c v x)(s:aF P W w):iC w.heap S c v x:=h.soft s c v v x (.inl rfl)
theorem iC.form{h:Array Obj}{S:Nat->Prop}{e:TypeId}{r:ak}{v:Value}{l:List r.den}(H:iC h S (.sl e r) v l):∃a c,v=.slice a l.length c:=by rw[iC]at H;rcases H with⟨rfl,a,c,rfl⟩|⟨b,off,cap,cs,t,fz,rfl,_⟩<;>exact⟨_,_,rfl⟩
theorem dD{cs:Array Value}{a n:Nat}{vs:List Value}(h:(cs.toList.drop a).take n=vs){k:Nat}{v:Value}(hv:vs[k]? =some v):cs[a+k]? =some v:=by
 rw[← h,arR]at hv;split at hv
 .rw[arV,Array.getElem?_toList]at hv;exact hv
 .cases hv
def cnt{α:Type}(f:α->Nat):List α->Nat
 |[]=>0
 |x::l=>f x+cnt f l
theorem NP{α:Type}(f:α->Nat):∀(a b:List α),cnt f (a++b)=cnt f a+cnt f b
 |[],b=>by show _=0+_;rw[arY];rfl
 |p::r,b=>by show f p+cnt f (r++b)=f p+cnt f r+cnt f b;rw[NP f r b];omega
theorem uf{α:Type}(f:α->Nat){l:List α}{m:Nat}{x:α}(h:l[m]? =some x):cnt f (l.take (m+1))=cnt f (l.take m)+f x/\cnt f (l.take m)+f x<=cnt f l:=by
 obtain⟨hl,e⟩:=arf.1 h;have e1:l.take (m+1)=l.take m++[x]:=by rw[arW hl,e]
 have e2:cnt f [x]=f x:=rfl;have e3:cnt f l=cnt f (l.take (m+1))+cnt f (l.drop (m+1)):=by rw[← NP,asR]
 rw[e1,NP,e2]at e3 ⊢;omega
theorem vz{α:Type}{f:α->Nat}:∀{l:List α},(∀x,1<=f x)->l.length<=cnt f l
 |[],_=>ara _
 |x::l,h=>by have:=vz (l:=l) h;have:=h x;show l.length+1<=f x+cnt f l;omega
def Rg(w:World)(lo hi b:Nat):Prop:=lo<=b/\b<hi/\unf w b
abbrev New(w w':World):Nat->Prop:=Rg w' w.heap.size w'.heap.size
inductive kJ where
 |box (b:Nat) (o:Obj)
 |tree (lo hi:Nat) (c:CT) (v:Value) (x:c.den)
 |row (lo hi:Nat) (r:ak) (vs:List Value) (x:r.den)
def kJ.ok(w:World):kJ->Prop
 |.box b o=>w.heap[b]? =some o
 |.tree lo hi c v x=>hi<=w.heap.size/\cZ w.heap (Rg w lo hi) c v x
 |.row lo hi r vs x=>hi<=w.heap.size/\aX w.heap (Rg w lo hi) r vs x
def kJ.apart(P:Nat->Prop):kJ->Prop
 |.box b _=>¬P b
 |.tree lo hi _ _ _=>∀b,P b->¬(lo<=b/\b<hi)
 |.row lo hi _ _ _=>∀b,P b->¬(lo<=b/\b<hi)
def Mem(w:World):List kJ->Prop
 |[]=>True
 |e::l=>e.ok w/\Mem w l
def afw(P:Nat->Prop):List kJ->Prop
 |[]=>True
 |e::l=>e.apart P/\afw P l
theorem Mem.soft{P:Nat->Prop}{w w':World}(s:aF P w w'):∀{l:List kJ},Mem w l->afw P l->Mem w' l
 |[],_,_=>trivial
 |.box b o::l,⟨h1,h2⟩,⟨k1,k2⟩=>⟨(s.block b (aq6.1 h1).1 k1).trans h1,Mem.soft s h2 k2⟩
 |.tree lo hi c v x::l,⟨⟨h0,h1⟩,h2⟩,⟨k1,k2⟩=>⟨⟨aq7 h0 s.size,cZ.mono (λb hb=>have e:=s.block b (ari hb.2.1 h0) λhp=>k1 b hp ⟨hb.1,hb.2.1⟩
    ⟨⟨hb.1,hb.2.1,hb.2.2.keep e⟩,e⟩) c v x h1⟩,Mem.soft s h2 k2⟩
 |.row lo hi r vs x::l,⟨⟨h0,h1⟩,h2⟩,⟨k1,k2⟩=>⟨⟨aq7 h0 s.size,aX.mono (λb hb=>have e:=s.block b (ari hb.2.1 h0) λhp=>k1 b hp ⟨hb.1,hb.2.1⟩
    ⟨⟨hb.1,hb.2.1,hb.2.2.keep e⟩,e⟩) r vs x h1⟩,Mem.soft s h2 k2⟩
theorem FK:∀(l:List kJ),afw (λ_=>False) l
 |[]=>trivial
 |.box _ _::l=>⟨λh=>h,FK l⟩
 |.tree _ _ _ _ _::l=>⟨λ_ h=>h.elim,FK l⟩
 |.row _ _ _ _ _::l=>⟨λ_ h=>h.elim,FK l⟩
theorem Mem.below{w w':World}(s:Below w.heap.size w w'){l:List kJ}(h:Mem w l):Mem w' l:=h.soft (P:=λ_=>False) (aF.of s) (FK l)
theorem kJ.new{w w':World}{c:CT}{v:Value}{x:c.den}(h:cZ w'.heap (New w w') c v x):kJ.ok w' (.tree w.heap.size w'.heap.size c v x):=⟨ara _,h⟩
theorem kJ.lt{w:World}{lo hi:Nat}{c:CT}{v:Value}{x:c.den}(h:kJ.ok w (.tree lo hi c v x)):cZ w.heap (λb=>b<w.heap.size) c v x:=
 cZ.mono (λ_ hb=>⟨ari hb.2.1 h.1,rfl⟩) c v x h.2
theorem kJ.newR{w w':World}{r:ak}{vs:List Value}{x:r.den}(h:aX w'.heap (New w w') r vs x):kJ.ok w' (.row w.heap.size w'.heap.size r vs x):=⟨ara _,h⟩
theorem kJ.ltR{w:World}{lo hi:Nat}{r:ak}{vs:List Value}{x:r.den}(h:kJ.ok w (.row lo hi r vs x)):aX w.heap (λb=>b<w.heap.size) r vs x:=
 aX.mono (λ_ hb=>⟨ari hb.2.1 h.1,rfl⟩) r vs x h.2
theorem kJ.amD{w:World}{lo hi:Nat}{r:ak}{vs:List Value}{x:r.den}(h:kJ.ok w (.row lo hi r vs x)):ShR w.heap (Rg w lo hi) r vs x:=ShR.of (λ_ hb=>hb.2.2) r vs x h.2
theorem kJ.shape{w:World}{lo hi:Nat}{c:CT}{v:Value}{x:c.den}(h:kJ.ok w (.tree lo hi c v x)):iC w.heap (Rg w lo hi) c v x:=iC.of (λ_ hb=>hb.2.2) c v x h.2
theorem afy{P:Nat->Prop}{B:Nat}{W w w':World}(h:Below B W w)(s:aF P w w')(hB:B<=w.heap.size)(hP:∀b,P b->B<=b):Below B W w':=
 ⟨s.os.trans h.os,s.tape.trans h.tape,s.output.trans h.output,aq7 h.size s.size,λb hb=>(s.block b (ari hb hB) λhp=>ate.2 (hP b hp) hb).trans (h.block b hb)⟩
theorem Dv(X:V)(fr:Bool):∀(r:ak)(vs:List Value)(x:r.den),ai X (ak.row fr r x) vs->aX X.w.heap (X.bP fr) r vs x
 |.nil,[],_,_=>rfl
 |.nil,_::_,_,h=>by cases h
 |.cons c r,[],_,h=>by cases h
 |.cons (.int k) r,v::vs,(x,y),⟨h1,h2⟩=>⟨v,vs,rfl,h1,Dv X fr r vs y h2⟩
 |.cons .bool r,v::vs,(x,y),⟨h1,h2⟩=>⟨v,vs,rfl,h1,Dv X fr r vs y h2⟩
 |.cons .str r,v::vs,(x,y),⟨h1,h2⟩=>⟨v,vs,rfl,h1,Dv X fr r vs y h2⟩
 |.cons (.sl _ _) r,v::vs,(x,y),⟨h1,h2⟩=>⟨v,vs,rfl,h1,Dv X fr r vs y h2⟩
inductive Tok:Nat->Prop where
 |mk (n:Nat):Tok n
end Go.Fw
namespace Go.Fw
open Go
variable {P:Program} {H:Type} {enc:TypeId×Value->H} {w:World}
theorem Pg(hl:laidOutB P=true){base:Nat}{sp':Nat->Bool}{W W':World}:∀(ts:List TypeId)(_:ts.all (λt=>P.readableRec t&&decide (t<P.types.size))=true)
 (vs:List Value) (ds:List (DataW H)) (ps:List MemPlace),DataW.TrodAll enc P W base (λ_=>true) true ts vs ds ps->(∀p∈ps,W.sameAt W' p)->(∀p∈ps,sp' p.block=true)->DataW.TrodAll enc P W' base sp' true ts vs ds ps
 |[],_,vs,ds,ps,h,_,_=>by
  cases vs<;>cases ds<;>simp[DataW.TrodAll]at h ⊢;exact h
 |t::ts,ht,vs,ds,ps,h,h1,h2=>by
  rw[arX,aq5,aq5]at ht;cases vs with
  |nil=>cases ds<;>simp[DataW.TrodAll]at h
  |cons v vs=>
   cases ds with
   |nil=>simp[DataW.TrodAll]at h
   |cons d ds=>
    obtain⟨a,b,g1,g2,rfl⟩:=h;exact⟨a,b,WideElems.Trod_stays hl ht.1.1 (ar7 ht.1.2) g1 (λp hp=>h1 p (arS _ hp)) (λp hp=>h2 p (arS _ hp)),
     Pg hl ts ht.2 vs ds b g2 (λp hp=>h1 p (ase _ hp)) (λp hp=>h2 p (ase _ hp)),rfl⟩
theorem trodAll_length{base:Nat}{sp:Nat->Bool}{hd:Bool}{W:World}:∀(ts:List TypeId)(vs:List Value)(ds:List (DataW H))(ps:List MemPlace),DataW.TrodAll enc P W base sp hd ts vs ds ps->ds.length=ts.length
 |[],vs,ds,ps,h=>by cases vs<;>cases ds<;>simp[DataW.TrodAll]at h ⊢
 |t::ts,vs,ds,ps,h=>by
  cases vs with
  |nil=>cases ds<;>simp[DataW.TrodAll]at h
  |cons v vs=>
   cases ds with
   |nil=>simp[DataW.TrodAll]at h
   |cons d ds=>obtain⟨a,b,g1,g2,rfl⟩:=h;simp[trodAll_length ts vs ds b g2]
theorem akq{fn:Func}{s:ChangeSpec}{apart fresh handsOn again:Bool}{W W':World}{args:Array Value}{ds gs:List (DataW H)}{before:List MemPlace}{tb:TypeId}
 (hvars:s.vars=[]) (hspec:∀l:List (DataW H),l.length=fn.params.toList.length->(s.fn H l).results=[.lit (.bool true)]/\(s.fn H l).args=l/\(s.fn H l).vars=[])
 (hres:fn.resultTypes=#[tb]) (hb:P.underlying tb=some .bool) (hl:laidOutB P=true) (hread:fn.params.toList.all (λt=>P.readableRec t&&decide (t<P.types.size))=true)
 (hW:DataW.Whole enc P fn.params.toList s.vars apart W args.toList ds gs before) (hos:W'.os=W.os) (hout:W'.output=W.output) (hheap:∀b,b<W.heap.size->W'.heap[b]? =W.heap[b]?):
 s.post enc P fn apart fresh handsOn again W args (.bool true) W':=by
 have hlt:=hW.lt;have hW0:=hW;obtain⟨p,q,hA,hV,hpq,hz,hn⟩:=hW;have hg:gs=[]/\q=[]:=by
  grind [DataW.TrodVars]
 obtain⟨rfl,rfl⟩:=hg;rw[arU]at hpq;subst hpq;have hlen:=trodAll_length _ _ _ _ hA;obtain⟨r1,r2,r3⟩:=hspec (ds++[]) (by grind);rw[arU]at r1 r2 r3;have hsame:∀x∈before,W.sameAt W' x:=λx hx=>akp hheap (hlt x hx);have R:∀(b:Nat)(sp:Nat->Bool)(hd:Bool),DataW.TrodAll enc P W' b sp hd fn.resultTypes.toList ((Value.bool true).resultList fn.resultTypes.size) [.lit (.bool true)] []:=by intro b sp hd;rw[hres];exact⟨[],[],⟨1,by simp[DataW.trod,Value.cells,hb]⟩,rfl,rfl⟩
 have A:∀sp:Nat->Bool,(∀x∈before,sp x.block=true)->DataW.TrodAll enc P W' 0 sp true fn.params.toList args.toList ds before:=λsp hsp=>Pg hl _ hread _ _ _ hA hsame hsp;refine⟨ds,[],before,[],before,[],hW0,?_,?_,?_,ako hos hout hheap _,λ_=>⟨?_,.lit (.bool true)::ds,[],before,⟨before,[],?_,?_,by simp,?_,hn⟩,λx hx _=>hx⟩⟩
 · grind
 · grind
 .rw[arU,r3,hvars];rfl
 .intro j t r h1 h2;rw[hres]at h1 h2
  match j with
  |0=>
   simp[Value.resultList]at h1 h2;subst h1 h2;simp[Value.okWide,hb,Go.Cell.okWide,Go.Cell.ok]
  |j+1=>simp at h1
 .exact ChangeShapes.trodAll_append (A _ (λ_ _=>rfl)) (R _ _ _)
 .rw[hvars];rfl
 .intro b off hp;have hbl:=hlt _ hp;have e:W'.frozen? ⟨b,off,none⟩=W.frozen? ⟨b,off,none⟩:=by unfold World.frozen?;rw[hheap b hbl]
  rw[e];exact hz b off hp
end Go.Fw
namespace Go.Fw
open Go
theorem law_lifted{H:Type}{enc:TypeId×Value->H}{C:Checked}{G:iQ}{os:Os}{f:FuncId}{fn:Func}{s:ChangeSpec}{conds:List PathCond}{apart fresh handsOn again:Bool}{tb:TypeId}{sh:List fP}{F:kD sh->Prop×Out}
 (own:ownKnob C.prog.godebug=none) (started:os.Started) (noInit:C.prog.inits.idxOf? f=none) (hfn:C.prog.funcs[f]? =some fn)
 (witness:∃(w:World)(tape:Tape)(i:Input),w.os=os/\(w.forCall tape i).Shaped C.prog/\i.vars=[]/\Input.okWide C.prog (w.forCall tape i) .any w.heap.size f i/\
   s.pre6 enc C.prog fn conds apart (w.forCall tape i).memory i.args/\({}:Assume).holds C.prog (lone (Frame.enter C.prog f i.args .normal) [] (w.forCall tape i)))
 (hcon:ja C.prog G f (FI sh F)) (hsh:Iu C.prog fn.params.toList=some sh) (hF:∀x,GX sh x->(F x).1/\(F x).2=abE) (hG:∀w,G.ok w)
 (hvars:s.vars=[]) (hspec:∀l:List (DataW H),l.length=fn.params.toList.length->(s.fn H l).results=[.lit (.bool true)]/\(s.fn H l).args=l/\(s.fn H l).vars=[])
 (hres:fn.resultTypes=#[tb]) (hb:C.prog.underlying tb=some .bool) (hl:laidOutB C.prog=true) (hread:fn.params.toList.all (λt=>C.prog.readableRec t&&decide (t<C.prog.types.size))=true):
 ReturnsInHanded {} C os f .any (s.pre6 enc C.prog fn conds apart) (s.post enc C.prog fn apart fresh handsOn again):=by
 refine returnsInHanded_of_change own started noInit hfn witness ?_;intro W base args ds gs before hval hW _ _;have hW0:=hW;obtain⟨p,q,hA,_⟩:=hW;refine(ajs hcon hsh hF (hG W) hA hval).mono ?_
 grind [akq]
end Go.Fw
