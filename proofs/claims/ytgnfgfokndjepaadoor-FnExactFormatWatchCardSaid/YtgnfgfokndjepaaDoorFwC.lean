import Derived.Test.YtgnfgfokndjepaaDoorFwD
import Derived.Test.YtgnfgfokndjepaaDoorFwB
import Derived.Test.YtgnfgfokndjepaaDoorFwA
import Derived.IntWalk
import Derived.Laws.IdiomCopy
import Derived.Below
import Derived.ChangeArms
import Derived.WideKeyArgs
import Derived.ChangeSame
import Derived.ChangeOld
import Derived.Handed
import Derived.ProofKit
namespace Go.Fw
open Go
variable {P:Program} {w0:World} {M:Nat->Prop} {T:Ext} {γ γ':Nat->Value} {st:St} {a:Act} {w w':World} {Θ:bJ} {Γ:dn}
structure qf where
 NM:List zi
 c:Shape
 v:Shape
structure Hints where
 own:Nat->Bool
 loops:Nat->Option qf
 cuts:Nat->Option qf
 upd:List Nat
 SK:Nat->List Pre
def jM:Code->Option Nat
 |.region id _ _=>some id
 |.seq x y=>match jM x with|some n=>some n|none=>jM y
 |.cond _ x y=>match jM x with|some n=>some n|none=>jM y
 |.block _ x|.loop x=>jM x
 |_=>none
def cutAt(H:Hints)(y:Code):Option qf:=match jM y with
 |some n=>H.cuts n
 |none=>none
def o9(Θ:bJ)(Γ:dn)(H:Hints):Code->(Exit->St->Prop)->St->Prop
 |.skip,Q,st=>Q .normal st
 |.region id ops false,Q,st=>wZ (H.SK id) (runs Θ Γ H.own ops.toList (Q .normal) ops.toList) st
 |.region id ops true,Q,st=>wZ (H.SK id) (uI Θ Γ H.own H.upd ops.toList (Q .normal)) st
 |.seq x y,Q,st=>match cutAt H y with
  |none=>o9 Θ Γ H x (λe s=>match e with|.normal=>o9 Θ Γ H y Q s|e=>Q e s) st
  |some sp=>match sp.c.read (only sp.c sp.v st)with
   |some x0=>∃(J:sp.v.den->Prop),o9 Θ Γ H x (λe s=>match e with
     |.normal=>match settles s sp.NM with
      |some s1=>match Nat.beq s1.n st.n,sp.c.read (only sp.c sp.v s1),sp.v.read (only sp.c sp.v s1)with
       |true,some x1,some y1=>x1=x0/\J y1
       |_,_,_=>False
      |none=>False
     |e=>Q e s) st/\∀y1,J y1->o9 Θ Γ H y Q (joint st.n sp.c sp.v x0 y1)
   |none=>False
 |.cond c x y,Q,st=>match st.ev c with
  |.sv (.one (.bool b))=>cond b (o9 Θ Γ H x Q st) (o9 Θ Γ H y Q st)
  |_=>False
 |.block id c,Q,st=>o9 Θ Γ H c (λe s=>match e with
  |.exit i=>match Nat.beq i id with|true=>Q .normal s|false=>Q (.exit i) s
  |e=>Q e s) st
 |.exit id,Q,st=>Q (.exit id) st
 |.ret,Q,st=>Q .ret st
 |.loop c,Q,st=>match jM c with
  |some n=>match H.loops n with
   |some sp=>match settles st sp.NM with
    |some s0=>match sp.c.read (only sp.c sp.v s0),sp.v.read (only sp.c sp.v s0)with
     |some x0,some y0=>∃(I:sp.v.den->Prop)(μ:sp.v.den->Nat),I y0/\∀y,I y->
       o9 Θ Γ H c (λe s=>match e with
        |.normal=>match settles s sp.NM with
         |some s1=>match Nat.beq s1.n s0.n,sp.c.read (only sp.c sp.v s1),sp.v.read (only sp.c sp.v s1)with
          |true,some x1,some y1=>x1=x0/\I y1/\μ y1<μ y
          |_,_,_=>False
         |none=>False
        |e=>Q e s) (joint s0.n sp.c sp.v x0 y)
     |_,_=>False
    |none=>False
   |none=>False
  |none=>False
 |_,_,_=>False
theorem zk{G:cu}(hE:iD P G Θ Γ w0 M)(hm:P.follows .mixedOrders=true)(H:Hints):∀(c:Code)(QA:Exit->St->Prop)(Q:Exit->Act->World->Prop)(st:St)(γ:Nat->Value)(a:Act)(w:World),
 Rel w0 M T γ st a w->o9 Θ Γ H c QA st->(∀e s γ' a' w',QA e s->Rel w0 M T γ' s a' w'->Q e a' w')->c.wp P Q a w:=by
 intro c
 induction c with
 |skip=>intro QA Q st γ a w h ha hQ;exact wp_skip (hQ _ _ _ _ _ ha h)
 |region id ops d=>
  intro QA Q st γ a w h ha hQ;cases d with
  |false=>
   obtain⟨s0,γ0,h0,hk0⟩:=mP (K:=runs Θ Γ H.own ops.toList (QA .normal) ops.toList) (H.SK id) st γ h ha
   grind [JO]
  |true=>
   obtain⟨s0,γ0,h0,hk0⟩:=mP (K:=uI Θ Γ H.own H.upd ops.toList (QA .normal)) (H.SK id) st γ h ha
   grind [Pn]
 |seq x y SL ihy=>
  intro QA Q st γ a w h ha hQ;rw[o9]at ha;split at ha
  .refine wp_seq (SL _ _ st γ a w h ha ?_);intro e s γ' a' w' hq hR;cases e<;>first|exact ihy _ _ s γ' a' w' hR hq hQ|exact hQ _ _ _ _ _ hq hR
  .next sp hsp=>
   split at ha
   .next x0 hx=>
    obtain⟨J,h1,h2⟩:=ha;refine wp_seq (SL _ _ st γ a w h h1 ?_);intro e s γ' a' w' hq hR;cases e with
    |normal=>
     simp only at hq;split at hq
     .next s1 hs1=>
      split at hq
      .next x1 y1 hsn hx1 hy1=>obtain⟨rfl,hJ⟩:=hq;obtain⟨γ1,hR1⟩:=Rel.settles _ hR hs1;have hR2:=hR1.joint hx1 hy1;rw[YX hsn]at hR2;exact ihy _ _ _ γ1 a' w' hR2 (h2 _ hJ) hQ
      grind
     grind
    |_=>exact hQ _ _ _ _ _ hq hR
   grind
 |cond c x y SL ihy=>
  intro QA Q st γ a w h ha hQ;rw[o9]at ha;split at ha
  .next b hb=>
   have hv:a.eval c=.bool b:=by have:=bH h c;rw[hb]at this;exact this
   grind [wp_cond_split]
  grind
 |block id c ih=>
  intro QA Q st γ a w h ha hQ;refine wp_block (ih _ _ st γ a w h ha ?_);intro e s γ' a' w' hq hR;cases e with
  |exit i=>
   simp only[Exit.inBlock];cases hb:Nat.beq i id with
   |true=>
    grind [Nat.eq_of_beq_eq_true]
   |false=>
    rw[if_neg (by rintro rfl;simp at hb)]
    grind
  |_=>exact hQ _ _ _ _ _ hq hR
 |loop c ih=>
  intro QA Q st γ a w h ha hQ;rw[o9]at ha;split at ha
  .split at ha
   .next sp hsp=>
    split at ha
    .next s0 hs0=>
     split at ha
     .next x0 y0 hx hy=>
      obtain⟨I,μ,h0,hI⟩:=ha;obtain⟨γ0,hR0⟩:=Rel.settles _ h hs0
      let J:sp.v.den->Act->World->Prop:=λy a' w'=>∃γ',Rel w0 M T γ' (joint s0.n sp.c sp.v x0 y) a' w'
      have key:∀(n:Nat)(y:sp.v.den),μ y=n->I y->∀a' w',J y a' w'->∀(b:Frame)(k:List Item)(cs:List Frame),
       ∃e a'' w'',Q e a'' w''/\Arrives P (lone (b.at a' (.code c:: .inLoop c::k)) cs w') b k cs e a'' w'':=by
       intro n
       induction n using Nat.strongRecOn with
       |_ n ihn=>
        intro y hμ hy' a' w' ⟨γ',hR⟩ b k cs;have hbody:=ih _ (Exit.then (λa2 w2=>∃y2,I y2/\μ y2<μ y/\J y2 a2 w2) Q) _ γ' a' w' hR (hI y hy') ?_
        .obtain⟨e,a1,w1,hq,harr⟩:=hbody b (.inLoop c::k) cs;cases e with
         |normal=>
          obtain⟨y2,hI2,hlt,hJ2⟩:=hq;obtain⟨e2,a2,w2,hq2,VP⟩:=ihn (μ y2) (hμ▸hlt) y2 rfl hI2 a1 w1 hJ2 b k cs;exact⟨e2,a2,w2,hq2,.of_steps (Steps.trans harr (.one step_inLoop)) VP⟩
         |exit id=>exact⟨_,a1,w1,hq,.pass (x:=.inLoop c) rfl (λ_ _=>.inl (by simp)) harr⟩
         |goto l=>exact⟨_,a1,w1,hq,.pass (x:=.inLoop c) rfl (λ_ _=>.inl (by simp)) harr⟩
         |ret=>exact⟨_,a1,w1,hq,.pass (x:=.inLoop c) rfl (λ_ _=>.inl (by simp)) harr⟩
         |panic ch=>exact⟨_,a1,w1,hq,.pass (x:=.inLoop c) rfl (λ_ _=>.inl (by simp)) harr⟩
         |outgrown=>exact⟨_,a1,w1,hq,.pass (x:=.inLoop c) rfl (λ_ _=>.inl (by simp)) harr⟩
        .intro e s γ2 a2 w2 hq hR2;cases e with
         |normal=>
          simp only at hq;split at hq
          .next s1 hs1=>
           split at hq
           .next x1 y1 hsn hx1 hy1=>obtain⟨rfl,hI1,hlt⟩:=hq;obtain⟨γ3,XV⟩:=Rel.settles _ hR2 hs1;have hJ:=XV.joint hx1 hy1;rw[YX hsn]at hJ;exact⟨y1,hI1,hlt,_,hJ⟩
           grind
          grind
         |_=>exact hQ _ _ _ _ _ hq hR2
      intro b k cs;obtain⟨e,a',w',hq,harr⟩:=key _ y0 rfl h0 a w ⟨_,hR0.joint hx hy⟩ b k cs;exact⟨e,a',w',hq,.of_steps (.one step_loop) harr⟩
     grind
    grind
   grind
  grind
 |rangeFunc f ps x y SL ihy=>intro QA Q st γ a w h ha hQ;exact ha.elim
 |exit id=>intro QA Q st γ a w h ha hQ;exact wp_exit (hQ _ _ _ _ _ ha h)
 |scope c ih=>intro QA Q st γ a w h ha hQ;exact ha.elim
 |label l=>intro QA Q st γ a w h ha hQ;exact ha.elim
 |goto l=>intro QA Q st γ a w h ha hQ;exact ha.elim
 |ret=>intro QA Q st γ a w h ha hQ;exact wp_ret (hQ _ _ _ _ _ ha h)
 |refuse s=>intro QA Q st γ a w h ha hQ;exact ha.elim
def Arg.av:Arg->AV
 |.sv v=>.sv v
 |.kp cs=>.bI cs 0
 |.fn f caps=>.fn f caps
 |.own _ _ _|.ptr _=>.undef
def entry(n:Nat)(args:List Arg):St:=
 {n:=n,tmps:=λt=>match args[t]? with|some v=>v.av|none=>.undef,af:=λ_=>none}
def uJ(st:St)(o:Nat):Bool:=match st.af o with|some (.arr _ _ _ _)=>true|_=>false
def D6(Θ:bJ)(st:St):ResultVar->Option SV
 |.tmp t=>match st.tmps t with|.sv v=>some v|_=>none
 |.cell t ty=>match Θ ty,st.tmps t with
  |some ti,.bF o off=>match st.af o with
   |some (.var cs)=>dF ti cs off
   |_=>none
  |_,_=>none
def tu(Θ:bJ)(st:St):List ResultVar->Option (List SV)
 |[]=>some []
 |r::rs=>match D6 Θ st r,tu Θ st rs with
  |some v,some vs=>some (v::vs)
  |_,_=>none
def outOf:SV->Bool×List aW
 |.one c=>(false,[.plain c])
 |.agg cs=>(true,cs.map .plain)
def outs:List SV->List (Bool×List aW)
 |[]=>[]
 |v::vs=>outOf (v.kill λ_=>true)::outs vs
def fin(Θ:bJ)(rv:List ResultVar)(st:St):Option Out:=
 match tu Θ (st.freeze (uJ st)) rv with
 |some vs=>some ⟨outs vs,none⟩
 |none=>none
theorem uK:∀(k:Nat)(cs:List Cell),dA k (cs.map .plain)=(cs,[])
 |_,[]=>rfl
 |k,c::cs=>by simp only[Zh,dA,uK (k+1) cs,aW.take,ZJ]
theorem LC(k:Nat)(v:SV):jv k (outOf v)=(v,[]):=by
 cases v with
 |one c=>rfl
 |agg cs=>simp only[jv,outOf,uK]
theorem TL(v:Value)(t:TypeId)(b off:Nat)(hv:v=.pointer (some ⟨b,off,none⟩)):Instr.loadAt t v=(do loadVar t (← asAddr v)):=by subst hv;rfl
def qM(tmps:Array Value):ResultVar->Sem Value
 |.tmp t=>pure (tmps.getD t undef)
 |.cell x t=>do loadVar t (← asAddr (tmps.getD x undef))
theorem xk(fn:Func)(tmps:Array Value):results fn tmps=(do let vs ← fn.results.mapM (qM tmps);pure (if h:vs.size=1 then vs[0]else .tuple vs)):=by congr 1
theorem JR(hΘ:∀t ti,Θ t=some ti->dG P t ti)(h:Rel w0 M T γ st a w){r:ResultVar}{v:SV}(hf:D6 Θ st r=some v):
 ∃u,(qM a.tmps r).run P w=.ok u w/\aP (ai w0 T γ st w) v u:=by
 cases r with
 |tmp t=>
  simp only[D6]at hf;split at hf
  .next e=>cases hf;have:=h.tmps t;rw[e]at this;exact⟨_,rfl,this⟩
  .cases hf
 |cell x t=>
  simp only[D6]at hf;split at hf
  .next ti o off ht hx=>
   split at hf
   .next cs ho=>have hv:=h.tmps x;rw[hx]at hv;obtain⟨b,cs',_,_,hv'⟩:=hv;obtain⟨u,hu,hr⟩:=uy hΘ h ht (x:=.tmp x) (.inl ⟨o,off,cs,hx,ho,hf⟩);refine⟨u,?_,hr⟩;rw[qM,← TL _ t b off hv'];exact hu
   .cases hf
  .cases hf
theorem tC(hΘ:∀t ti,Θ t=some ti->dG P t ti)(h:Rel w0 M T γ st a w):∀(rs:List ResultVar)(vs:List SV),tu Θ st rs=some vs->
 ∃us,(rs.mapM (qM a.tmps)).run P w=.ok us w/\
  aN (ai w0 T γ st w) vs us
 |[],vs,hf=>by cases hf;exact⟨[],rfl,trivial⟩
 |r::rs,vs,hf=>by
  rw[tu]at hf;split at hf
  .next v vs' h1 h2=>
   cases hf;obtain⟨u,hu,hr⟩:=JR hΘ h h1;obtain⟨us,hus,hrs⟩:=tC hΘ h rs vs' h2;refine⟨u::us,?_,hr,hrs⟩
   simp_all
  .cases hf
theorem aN.length{X:V}:∀(cs:List SV)(vs:List Value),aN X cs vs->vs.length=cs.length
 |[],[],_=>rfl
 |_::cs,_::vs,⟨_,h⟩=>by simp[aN.length cs vs h]
 |[],_::_,H|_::_,[],H=>by cases H
theorem aN.get{X:V}:∀(cs:List SV)(vs:List Value)(i:Nat)(c:SV),aN X cs vs->cs[i]? =some c->∃v,vs[i]? =some v/\aP X c v
 |[],_,_,_,_,h=>by simp at h
 |c::cs,v::vs,0,d,⟨h1,_⟩,h=>by grind
 |c::cs,v::vs,i+1,d,⟨_,h2⟩,h=>by
  obtain⟨u,hu,hr⟩:=aN.get cs vs i d h2 (by simpa using h);exact⟨u,by simpa using hu,hr⟩
 |_::_,[],_,_,H,_=>by cases H
theorem eG.length{X:V}:∀(cs:List Arg)(vs:List Value),eG X cs vs->vs.length=cs.length
 |[],[],_=>rfl
 |_::cs,_::vs,⟨_,h⟩=>by simp[eG.length cs vs h]
 |[],_::_,H|_::_,[],H=>by cases H
theorem eG.get{X:V}:∀(cs:List Arg)(vs:List Value)(i:Nat)(c:Arg),eG X cs vs->cs[i]? =some c->∃v,vs[i]? =some v/\jQ X c v
 |[],_,_,_,_,h=>by simp at h
 |c::cs,v::vs,0,d,⟨h1,_⟩,h=>by grind
 |c::cs,v::vs,i+1,d,⟨_,h2⟩,h=>by
  obtain⟨u,hu,hr⟩:=eG.get cs vs i d h2 (by simpa using h);exact⟨u,by simpa using hu,hr⟩
 |_::_,[],_,_,H,_=>by cases H
theorem jQ.av{X:V}:∀(c:Arg)(v:Value),jQ X c v->aA X c.av v
 |.sv _,_,h|.kp _,_,h|.fn _ _,_,h=>h
 |.own _ _ _,_,h|.ptr _,_,h=>h.elim
theorem Po{args:List Arg}{vs:Array Value}{S:Nat->Prop}(n:Nat)(hn:args.length<=n)
 (h:eG ⟨w,w.heap.size,S,λ_=>undef,λ_=>none⟩ args vs.toList):
 Rel w (λ_=>False) ⟨S,λ_=>none,λ_ _ h=>by cases h⟩ (λ_=>undef) (entry n args) {tmps:=vs++Array.replicate (n-vs.size) undef,defers:=[]} w:=by
 have hl:vs.size=args.length:=by simpa using eG.length _ _ h
 refine⟨λ_ h=>h.elim,rfl,?_,rfl,rfl,rfl,Zg _,λ_ _ _=>rfl,λt=>?_,(λo x hx=>by cases hx),(λo x b hx=>by cases hx),(λo x p y b hx=>by cases hx),(λo v cs hN=>by cases hN)⟩
 · grind [entry]
 .simp only[entry];cases ha:args[t]? with
  |none=>trivial
  |some v=>
   obtain⟨u,hu,hr⟩:=eG.get _ _ t v h ha;have:(vs++Array.replicate (n-vs.size) undef).getD t undef=u:=by
    have hlt:t<args.length:=by
     grind
    simp_all [Z7]
   grind [jQ.av]
end Go.Fw
namespace Go.Fw
def codeOf(fn:Func):Code:=match fn.body with|some c=>c|none=>.skip
def D7:List (Nat×TI)->bJ
 |[],_=>none
 |(t,x)::r,i=>match Nat.beq i t with|true=>some x|false=>D7 r i
def xq:List (Nat×pW)->dn
 |[],_=>none
 |(t,x)::r,i=>match Nat.beq i t with|true=>some x|false=>xq r i
def NP:List (Nat×qf)->Nat->Option qf
 |[],_=>none
 |(t,x)::r,i=>match Nat.beq i t with|true=>some x|false=>NP r i
def SN:List (Nat×List Pre)->Nat->List Pre
 |[],_=>[]
 |(n,z)::r,i=>match Nat.beq i n with|true=>z|false=>SN r i
def hints(own:List Nat)(l c:List (Nat×qf))(u:List Nat)(z:List (Nat×List Pre)):Hints:=⟨ax own,NP l,NP c,u,SN z⟩
end Go.Fw
namespace Go.Fw
open Go
variable {P:Program} {Θ:bJ} {Γ:dn}
inductive gq where
 |one (c:aY)
 |agg (l:List aY)
@[reducible] def gq.den:gq->Type
  |.one c=>c.den
  |.agg l=>dJ l
def gq.val:(s:gq)->s.den->SV
 |.one c,x=>.one (c.cell x)
 |.agg l,x=>.agg (bD l x)
def gq.read:(s:gq)->SV->Option s.den
 |.one c,.one x=>c.read x
 |.agg l,.agg xs=>bY l xs
 |_,_=>none
theorem gq.weak{X:V}(s:gq)(x:SV)(d:s.den)(v:Value)(hr:s.read x=some d)(hv:aP X x v):aP X (s.val d) v:=by
 unfold gq.read at hr;split at hr
 .exact aY.weak _ _ _ _ hr hv
 .obtain⟨vs,e,h⟩:=hv;exact⟨vs,e,nN _ _ _ _ hr h⟩
 .cases hr
@[reducible] def nU:List gq->Type
  |[]=>Unit
  |s::r=>s.den×nU r
def jD:(l:List gq)->nU l->List SV
 |[],_=>[]
 |s::r,x=>s.val x.1::jD r x.2
def vT:(l:List gq)->List SV->Option (nU l)
 |[],[]=>some ()
 |s::r,x::xs=>match s.read x,vT r xs with
  |some a,some b=>some (a,b)
  |_,_=>none
 |_,_=>none
theorem Pq{X:V}:∀(l:List gq)(xs:List SV)(d:nU l)(vs:List Value),vT l xs=some d->aN X xs vs->aN X (jD l d) vs
 |[],[],_,_,_,hv=>hv
 |s::r,x::xs,d,vs,hr,hv=>by
  rw[vT]at hr;split at hr
  .next a b h1 h2=>
   cases hr;cases vs with
   |nil=>cases hv
   |cons v vs=>exact⟨gq.weak s x a v h1 hv.1,Pq r xs b vs h2 hv.2⟩
  .cases hr
 |[],_::_,_,_,hr,_=>by grind [vT]
 |_::_,[],_,_,hr,_=>by grind [vT]
mutual
def CT.iL:(c:CT)->c.den->Prop
 |.int k,(n:Int)=>k.min<=n/\n<=k.max
 |.bool,_=>True
 |.str,(s:Bytes)=>s.length<=maxLen
 |.sl _ r,(l:List r.den)=>l.length<=maxLen/\∀x∈l,r.iL x
def aj.iL:(r:aj)->r.den->Prop
 |.nil,_=>True
 |.cons c r,x=>c.iL x.1/\r.iL x.2
end
mutual
theorem aU.iL{h:Array Obj}{S:Nat->Prop}:∀(c:CT)(v:Value)(x:c.den),aU h S c v x->c.iL x
 |.int k,v,(n:Int),H=>by rw[aU]at H;rw[CT.iL];exact H.2
 |.bool,v,(b:Bool),H=>by rw[CT.iL];trivial
 |.str,v,(s:Bytes),H=>by rw[aU]at H;rw[CT.iL];exact H.2
 |.sl e r,v,(l:List r.den),H=>by
  rw[aU]at H;rw[CT.iL];refine⟨H.1,λx hx=>?_⟩;obtain⟨i,hi,rfl⟩:=aan.1 hx;rcases H.2 with⟨hnil,_⟩|⟨b,off,cap,cs,t,fz,_,_,_,_,hr⟩
  .subst hnil;simp at hi
  .exact aC.iL r _ _ (hr i _ (Zf hi))
theorem aC.iL{h:Array Obj}{S:Nat->Prop}:∀(r:aj)(vs:List Value)(x:r.den),aC h S r vs x->r.iL x
 |.nil,vs,_,H=>by rw[aj.iL];trivial
 |.cons c r,vs,(x,y),H=>by rw[aC]at H;obtain⟨v,vs',_,h1,h2⟩:=H;rw[aj.iL];exact⟨aU.iL c v x h1,aC.iL r vs' y h2⟩
end
def aY.iL:(c:aY)->c.den->Prop
 |.int k,(n:Int)=>k.min<=n/\n<=k.max
 |.str,(s:Bytes)=>s.length<=maxLen
 |.sl _ r _,(l:List r.den)=>l.length<=maxLen/\∀x∈l,r.iL x
 |_,_=>True
def Ag:(l:List aY)->dJ l->Prop
 |[],_=>True
 |c::r,x=>c.iL x.1/\Ag r x.2
def gq.iL:(s:gq)->s.den->Prop
 |.one c,x=>c.iL x
 |.agg l,x=>Ag l x
theorem aY.Ah{X:V}(c:aY)(x:c.den)(v:Value)(h:ay X (c.cell x) v):c.iL x:=by
 cases c with
 |int k=>exact h.2
 |str=>exact h.2
 |sl e r fr=>
  have h':aU X.w.heap (X.aH fr) (.sl e r) v x:=h;have:=aU.iL (.sl e r) v x h';exact this
 |_=>trivial
theorem qN{X:V}:∀(l:List aY)(x:dJ l)(vs:List Value),ah X (bD l x) vs->Ag l x
 |[],_,_,_=>trivial
 |c::r,x,v::vs,h=>⟨aY.Ah c x.1 v h.1,qN r x.2 vs h.2⟩
 |_::_,_,[],h=>by cases h
inductive bP where
 |v (s:gq)
 |kp (l:List aY)
 |fn (f:FuncId) (l:List (List aY))
@[reducible] def bP.den:bP->Type
  |.v s=>s.den
  |.kp l=>dJ l
  |.fn _ l=>lC l
def bP.val:(s:bP)->s.den->Arg
 |.v s,x=>.sv (s.val x)
 |.kp l,x=>.kp (bD l x)
 |.fn f l,x=>.fn f (qK l x)
def bP.read:(s:bP)->Arg->Option s.den
 |.v s,.sv x=>s.read x
 |.kp l,.kp xs=>bY l xs
 |.fn f l,.fn g xs=>match Nat.beq f g with|true=>oD l xs|false=>none
 |_,_=>none
theorem bP.weak{X:V}(s:bP)(x:Arg)(d:s.den)(v:Value)(hr:s.read x=some d)(hv:jQ X x v):jQ X (s.val d) v:=by
 unfold bP.read at hr;split at hr
 .exact gq.weak _ _ _ _ hr hv
 .obtain⟨b,e,hk⟩:=hv;exact⟨b,e,Ho hr hk⟩
 .split at hr
  .next hb=>obtain⟨us,e,hk⟩:=hv;rw[bP.val,YX hb];exact⟨us,e,zf _ _ _ _ hr hk⟩
  .cases hr
 .cases hr
@[reducible] def iy:List bP->Type
  |[]=>Unit
  |s::r=>s.den×iy r
def jk:(l:List bP)->iy l->List Arg
 |[],_=>[]
 |s::r,x=>s.val x.1::jk r x.2
def pq:(l:List bP)->List Arg->Option (iy l)
 |[],[]=>some ()
 |s::r,x::xs=>match s.read x,pq r xs with
  |some a,some b=>some (a,b)
  |_,_=>none
 |_,_=>none
theorem zl{X:V}:∀(l:List bP)(xs:List Arg)(d:iy l)(vs:List Value),pq l xs=some d->eG X xs vs->eG X (jk l d) vs
 |[],[],_,_,_,hv=>hv
 |s::r,x::xs,d,vs,hr,hv=>by
  rw[pq]at hr;split at hr
  .next a b h1 h2=>
   cases hr;cases vs with
   |nil=>cases hv
   |cons v vs=>exact⟨bP.weak s x a v h1 hv.1,zl r xs b vs h2 hv.2⟩
  .cases hr
 |[],_::_,_,_,hr,_=>by grind [pq]
 |_::_,[],_,_,hr,_=>by grind [pq]
theorem x9:∀(l:List bP)(d:iy l),(jk l d).length=l.length
 |[],_=>rfl
 |_::r,d=>by simp[jk,x9 r d.2]
def F7:(l:List (List aY))->lC l->Prop
 |[],_=>True
 |c::r,x=>Ag c x.1/\F7 r x.2
def bP.iL:(s:bP)->s.den->Prop
 |.v s,x=>s.iL x
 |.kp l,x=>Ag l x
 |.fn _ l,x=>F7 l x
def xu:(l:List bP)->iy l->Prop
 |[],_=>True
 |s::r,x=>s.iL x.1/\xu r x.2
theorem Bo{X:V}:∀(l:List (List aY))(x:lC l)(us:List Value),aV X (qK l x) us->F7 l x
 |[],_,_,_=>trivial
 |c::r,x,u::us,h=>by
  obtain⟨⟨b,hu,arr,t,fz,hf,hh,hc⟩,h2⟩:=h;exact⟨qN c x.1 _ hc,Bo r x.2 us h2⟩
 |_::_,_,[],h=>by cases h
theorem l7{X:V}:∀(l:List bP)(x:iy l)(vs:List Value),eG X (jk l x) vs->xu l x
 |[],_,_,_=>trivial
 |.v (.one c)::r,x,v::vs,h=>⟨aY.Ah c x.1 v h.1,l7 r x.2 vs h.2⟩
 |.v (.agg l)::r,x,v::vs,h=>by
  obtain⟨ws,hv,hc⟩:=h.1;exact⟨qN l x.1 _ hc,l7 r x.2 vs h.2⟩
 |.kp l::r,x,v::vs,h=>by
  obtain⟨b,hu,arr,t,fz,hf,hh,hc⟩:=h.1;exact⟨qN l x.1 _ hc,l7 r x.2 vs h.2⟩
 |.fn f l::r,x,v::vs,h=>by
  obtain⟨us,hv,hk⟩:=h.1;exact⟨Bo l x.1 _ hk,l7 r x.2 vs h.2⟩
 |_::_,_,[],h=>by cases h
def rM(sh:List bP)(F:iy sh->Prop×Out):Jg:=λargs=>
 match pq sh args with
 |some x=>some (F x)
 |none=>none
def mV:List SV->List (Bool×List aW)
 |[]=>[]
 |v::vs=>outOf v::mV vs
theorem vU:∀(k:Nat)(vs:List SV),bG k (mV vs)=(vs,[])
 |_,[]=>rfl
 |k,v::vs=>by simp only[mV,bG,LC,vU,ZJ]
def D8(Θ:bJ)(rv:List ResultVar)(aT:List gq)(K:nU aT->Prop)(e:Exit)(st:St):Prop:=
 match e with
 |.normal|.ret=>match tu Θ (st.freeze (uJ st)) rv with
  |some vs=>match vT aT (vs.map (SV.kill λ_=>true))with
   |some d=>K d
   |none=>False
  |none=>False
 |_=>False
theorem TM{G:cu}(hE:EnvB P G Θ Γ)(hm:P.follows .mixedOrders=true){f:FuncId}{fn:Func}{c:Code}(hf:P.funcs[f]? =some fn)(hb:fn.body=some c)(H:Hints){con:Jg}{aT:List gq}
 (hwalk:∀args p out,con args=some (p,out)->p->Nat.ble args.length fn.ntmps=true/\∃d:nU aT,out=⟨mV (jD aT d),none⟩/\o9 Θ Γ H c (D8 Θ fn.results.toList aT λy=>y=d) (entry fn.ntmps args)):jr P G f con:=by
 intro args p out k S vs w hcon hp hG hrep;obtain⟨hn,d,hout,hw⟩:=hwalk args p out hcon hp;subst hout;have hn':args.length<=fn.ntmps:=by simp_all
 refine calls_of_wp hf hb (zk ⟨hE,hG,λb hb=>hb.elim⟩ hm H c _ _ _ _ _ _ (Po (S:=S) fn.ntmps hn' hrep) hw ?_);have hret:∀s γ' a' w',D8 Θ fn.results.toList aT (λy=>y=d) .ret s->Rel w (λ_=>False) ⟨S,λ_=>none,λ_ _ h=>by cases h⟩ γ' s a' w'->bodyPost P fn (λe w'=>∃v vals,e=.returned v/\w'.os=w.os/\w'.tape=w.tape/\w'.output=w.output/\w.heap.size<=w'.heap.size/\
  (∀b,b<w.heap.size->w'.heap[b]? =w.heap[b]?)/\
  aA ⟨w',w.heap.size,S,vals,look (Out.take k ⟨mV (jD aT d),none⟩).2⟩ (Out.take k ⟨mV (jD aT d),none⟩).1 v/\
  (∀o x,look (Out.take k ⟨mV (jD aT d),none⟩).2 o=some x->aB ⟨w',w.heap.size,S,vals,look (Out.take k ⟨mV (jD aT d),none⟩).2⟩ o x/\∀b,blk (vals o)=some b->w.heap.size<=b/\b<w'.heap.size)/\
  (∀o x q y b,look (Out.take k ⟨mV (jD aT d),none⟩).2 o=some x->look (Out.take k ⟨mV (jD aT d),none⟩).2 q=some y->o≠q->blk (vals o)=some b->blk (vals q)≠some b)) .ret a' w':=by
  intro s γ' a' w' he hR;refine⟨hR.defers,?_⟩;simp only[D8]at he;split at he
  .next JS hvs=>
   split at he
   .next y hy=>
    subst he;have Hr:=hR.freeze (uJ s);obtain⟨us,hus,hrs⟩:=tC hE.types Hr _ _ hvs;have hk0:=aN.kill (λ_=>true) Hr JS us hrs;have hk:=Pq aT _ y us hy hk0;have htake:Out.take k ⟨mV (jD aT y),none⟩=(match jD aT y with|[v]=>.sv v|l=>.dO l,[]):=by
     grind [Out.take,vU]
    have hmap:(fn.results.mapM (qM a'.tmps)).run P w'=.ok us.toArray w':=by
     simp_all [aay]
    refine⟨if h:us.toArray.size=1 then us.toArray[0]else .tuple us.toArray,?_,_,γ',rfl,hR.os,hR.tape,hR.output,hR.grow,λb hb=>hR.kept b hb (λh=>h),?_,?_,?_⟩
    .rw[xk,Zj,hmap]
     simp_all
    .rw[htake];have hl:=aN.length _ _ hk
     match hm:jD aT y,us,hk,hl with
     |[v],[u],hk,_=>exact hk.1
     |[],[],hk,_=>exact⟨_,by simp,hk⟩
     |v::v2::r,u::u2::us,hk,hl=>exact⟨_,by simp,hk⟩
     |[],_::_,hk,h4|_::_,[],hk,h4|[_],_::_::_,hk,h4|_::_::_,[_],hk,h4=>simp at h4
    .intro o x hx;rw[htake]at hx;cases hx
    .intro o x q y b hx;rw[htake]at hx;cases hx
   grind
  grind
 intro e s γ' a' w' he hR;cases e with
 |normal=>exact hret s γ' a' w' he hR
 |ret=>grind
 |_=>exact he.elim
def lW(sh:List bP)(aT:List gq)(F:iy sh->Prop×nU aT):Jg:=rM sh λx=>((F x).1,⟨mV (jD aT (F x).2),none⟩)
theorem TN{G:cu}(hE:EnvB P G Θ Γ)(hm:P.follows .mixedOrders=true){f:FuncId}{fn:Func}{c:Code}(hf:P.funcs[f]? =some fn)(hb:fn.body=some c)(H:Hints)
 {sh:List bP} {aT:List gq} {F:iy sh->Prop×nU aT} (hn:Nat.ble sh.length fn.ntmps=true)
 (hwalk:∀x,xu sh x->(F x).1->o9 Θ Γ H c (D8 Θ fn.results.toList aT λy=>y=(F x).2) (entry fn.ntmps (jk sh x))):jr P G f (lW sh aT F):=by
 have base:∀x,xu sh x->jr P G f (λargs=>@ite _ (args=jk sh x) (Classical.propDecidable _) (some ((F x).1,⟨mV (jD aT (F x).2),none⟩)) none):=by
  intro x hin;refine TM (aT:=aT) hE hm hf hb H ?_
  grind [x9]
 intro args p out k S vs w hcon hp hG hrep;unfold lW rM at hcon;split at hcon
 .next x hx=>have hv:=zl sh args x vs.toList hx hrep;exact base x (l7 sh x _ hv) (jk sh x) p out k S vs w (by grind) hp hG hv
 .cases hcon
inductive RC where
 |c (s:aY)
 |own (e:TypeId) (r:aj) (fr:Bool)
@[reducible] def RC.den:RC->Type
  |.c s=>s.den
  |.own _ r _=>List r.den
@[reducible] def D9:List RC->Type
  |[]=>Unit
  |c::r=>c.den×D9 r
def RC.NQ:(c:RC)->c.den->aW
 |.c s,x=>.plain (s.cell x)
 |.own e r fr,l=>.own e r l fr
def F8:(l:List RC)->D9 l->List aW
 |[],_=>[]
 |c::r,x=>c.NQ x.1::F8 r x.2
inductive fB where
 |one (c:RC)
 |agg (l:List RC)
@[reducible] def fB.den:fB->Type
  |.one c=>c.den
  |.agg l=>D9 l
@[reducible] def mW:List fB->Type
  |[]=>Unit
  |s::r=>s.den×mW r
def fB.out:(s:fB)->s.den->Bool×List aW
 |.one c,x=>(false,[c.NQ x])
 |.agg l,x=>(true,F8 l x)
def bQ:(l:List fB)->mW l->List (Bool×List aW)
 |[],_=>[]
 |s::r,x=>s.out x.1::bQ r x.2
def RC.name:RC->Cell->Option Nat
 |.own _ _ _,.ref o=>some o
 |_,_=>none
def F9:List RC->List Cell->List (Option Nat)
 |c::r,x::xs=>c.name x::F9 r xs
 |_,_=>[]
def fB.names:fB->SV->List (Option Nat)
 |.one c,.one x=>[c.name x]
 |.agg l,.agg xs=>F9 l xs
 |_,_=>[]
def lD:List fB->List SV->List (Option Nat)
 |s::r,x::xs=>s.names x++lD r xs
 |_,_=>[]
def RC.read(st:St):(c:RC)->Cell->Option c.den
 |.c s,x=>match x.refs with|[]=>s.read x|_=>none
 |.own e r fr,.ref o=>match st.af o with
  |some (.arr f s l g)=>match Nat.beq e f&&tq fr g with
   |true=>if h:s.beq r=true then some (jd h l)else none
   |false=>none
  |_=>none
 |.own _ r _,.nil=>match Nat.ble 1 r.len with|true=>some []|false=>none
 |_,_=>none
def vV(st:St):(l:List RC)->List Cell->Option (D9 l)
 |[],[]=>some ()
 |c::r,x::xs=>match c.read st x,vV st r xs with
  |some a,some b=>some (a,b)
  |_,_=>none
 |_,_=>none
def fB.read(st:St):(s:fB)->SV->Option s.den
 |.one c,.one x=>c.read st x
 |.agg l,.agg xs=>vV st l xs
 |_,_=>none
def l9(st:St):(l:List fB)->List SV->Option (mW l)
 |[],[]=>some ()
 |s::r,x::xs=>match s.read st x,l9 st r xs with
  |some a,some b=>some (a,b)
  |_,_=>none
 |_,_=>none
inductive bU where
 |p (s:bP)
 |own (e:TypeId) (r:aj)
 |ptr (l:List aY)
@[reducible] def bU.den:bU->Type
  |.p s=>s.den
  |.own _ r=>List r.den
  |.ptr l=>dJ l
def bU.mode:bU->Mode
 |.p _=>.val
 |.own _ _=>.own
 |.ptr _=>.ptr
def bU.val:(s:bU)->s.den->Arg
 |.p s,x=>s.val x
 |.own e r,l=>.own e r l
 |.ptr l,x=>.ptr (bD l x)
def bU.read:(s:bU)->Arg->Option s.den
 |.p s,x=>s.read x
 |.own e r,.own f s l=>match Nat.beq e f with
  |true=>if h:s.beq r=true then some (jd h l)else none
  |false=>none
 |.ptr l,.ptr cs=>bY l cs
 |_,_=>none
@[reducible] def iE:List bU->Type
  |[]=>Unit
  |s::r=>s.den×iE r
def jE:(l:List bU)->iE l->List Arg
 |[],_=>[]
 |s::r,x=>s.val x.1::jE r x.2
def iM:(l:List bU)->List Arg->Option (iE l)
 |[],[]=>some ()
 |s::r,x::xs=>match s.read x,iM r xs with
  |some a,some b=>some (a,b)
  |_,_=>none
 |_,_=>none
@[reducible] def lU:List bU->Type
  |[]=>Unit
  |.ptr l::r=>dJ l×lU r
  |.p _::r|.own _ _::r=>lU r
def dB:(l:List bU)->lU l->List Eff
 |[],_=>[]
 |.ptr l::r,x=>.var (bD l x.1)::dB r x.2
 |.p _::r,x|.own _ _::r,x=>.lose::dB r x
def qO(st:St):(i:Nat)->(l:List bU)->Option (lU l)
 |_,[]=>some ()
 |i,.ptr l::r=>match st.af (i*64+48),qO st (i+1) r with
  |some (.var cs),some b=>match cs.flatMap Cell.refs,bY l cs with
   |[],some a=>some (a,b)
   |_,_=>none
  |_,_=>none
 |i,.p _::r|i,.own _ _::r=>qO st (i+1) r
def Arg.SQ(i:Nat):Arg->AV
 |.own _ _ _=>.sv (.one (.ref (i*64+49)))
 |.ptr _=>.bF (i*64+48) 0
 |a=>a.av
def nP(n:Nat)(args:List Arg):St:=
 {n:=n,tmps:=λt=>match args[t]? with|some v=>v.SQ t|none=>.undef,af:=aZ args}
def Ea(st:St)(W:List (Option Nat))(o:Nat):Bool:=uJ st o&&!(yM o W)
def I4(Θ:bJ)(rv:List ResultVar)(sh:List bU)(aT:List fB)(K:mW aT×lU sh->Prop)(e:Exit)(st:St):Prop:=
 match e with
 |.normal|.ret=>match tu Θ st rv with
  |some JS=>match tu Θ (st.freeze (Ea st (lD aT JS))) rv with
   |some vs=>match jP (lD aT vs),l9 (st.freeze (Ea st (lD aT JS))) aT vs,qO (st.freeze (Ea st (lD aT JS))) 0 sh with
    |true,some d,some b=>K (d,b)
    |_,_,_=>False
   |none=>False
  |none=>False
 |_=>False
def Qx(sh:List bU)(aT:List fB)(F:iE sh->Prop×(mW aT×lU sh->Prop)):FP:=λargs=>
 match iM sh args with
 |some x=>some ((F x).1,⟨mW aT×lU sh,(F x).2,λt=>⟨bQ aT t.1,none⟩,λt=>dB sh t.2⟩)
 |none=>none
def Pv(sh:List bU):List Mode:=sh.map bU.mode
end Go.Fw
namespace Go.Fw
open Go
variable {P:Program} {w0:World} {M:Nat->Prop} {T:Ext} {γ γ':Nat->Value} {st:St} {a:Act} {w w':World} {Θ:bJ} {Γ:dn}
def Gf(args:List Arg)(γ:Nat->Value)(o:Nat):Option Value:=match aZ args o with|some (.var _)=>some (γ o)|_=>none
theorem Qy{args:List Arg}{o:Nat}{cs:List Cell}(h:aZ args o=some (.var cs)):o%64=48:=by
 unfold aZ at h;split at h
 .split at h<;>cases h
 · grind [Nat.eq_of_beq_eq_true]
 .cases h
def zn(args:List Arg)(γ:Nat->Value)(S:Nat->Prop):Ext where
 S:=λb=>S b\/kH (aZ args) γ b
 N:=Gf args γ
 n48:=by
  intro p v h;unfold Gf at h;split at h
  .next cs hc=>exact Qy hc
  .cases h
theorem oZ.get{X:V}:∀(as:List Arg)(vs:List Value)(i:Nat),oZ X i as vs->as.length=vs.length/\∀(j:Nat)(b:Arg),as[j]? =some b->∃v,vs[j]? =some v/\FV X (i+j) b v
 |[],[],_,_=>⟨rfl,λj b h=>by simp at h⟩
 |x::as,v::vs,i,⟨h1,h2⟩=>by
  obtain⟨g1,g2⟩:=oZ.get as vs (i+1) h2;refine⟨by simp[g1],λj b hb=>?_⟩;cases j with
  |zero=>grind
  |succ j=>
   grind
 |[],_::_,_,H|_::_,[],_,H=>by cases H
theorem FV.av{X:V}(i:Nat):∀(c:Arg)(v:Value),FV X i c v->aA X (c.SQ i) v
 |.own _ _ _,_,h=>h
 |.ptr _,_,h=>h
 |.sv _,_,h|.kp _,_,h|.fn _ _,_,h=>h
theorem Eb{args:List Arg}{vs:Array Value}{S:Nat->Prop}(n:Nat)(hn:args.length<=n)
 (h:oZ ⟨w,w.heap.size,S,γ,aZ args⟩ 0 args vs.toList)
 (ho:∀o x,aZ args o=some x->aB ⟨w,w.heap.size,S,γ,aZ args⟩ o x/\∀b,blk (γ o)=some b->b<w.heap.size)
 (hs:∀o x q y b,aZ args o=some x->aZ args q=some y->o≠q->blk (γ o)=some b->blk (γ q)≠some b):
 Rel w (kH (aZ args) γ) (zn args γ S) γ (nP n args) {tmps:=vs++Array.replicate (n-vs.size) undef,defers:=[]} w:=by
 obtain⟨hl0,hget⟩:=oZ.get _ _ 0 h;have hl:vs.size=args.length:=by grind
 have le:V.le ⟨w,w.heap.size,S,γ,aZ args⟩ ⟨w,w.heap.size,(zn args γ S).S,γ,aZ args⟩:=
  ⟨Zg _,λb hb=>⟨⟨hb.1,λhlt=>.inl (hb.2.1 hlt),hb.2.2⟩,rfl⟩,λo cs hx=>⟨⟨cs,hx⟩,rfl⟩,λo e r l fr hx=>⟨⟨l,fr,hx⟩,rfl⟩⟩
 refine⟨λb hb=>.inr hb,rfl,?_,rfl,rfl,rfl,Zg _,λ_ _ _=>rfl,λt=>?_,λo x hx=>aB.mono le o x (λ_ _=>rfl) rfl (ho o x hx).1,λo x b hx hb=>⟨(ho o x hx).2 b hb,.inr ⟨o,x,hx,hb⟩⟩,λo x p y b hx hy hop hb=>hs o x p y b hx hy hop hb,λo v cs hN hx=>?_⟩
 · grind [nP]
 .simp only[nP];cases ha:args[t]? with
  |none=>trivial
  |some v=>
   obtain⟨u,hu,hr⟩:=hget t v ha;have:(vs++Array.replicate (n-vs.size) undef).getD t undef=u:=by
    have hlt:t<args.length:=by
     grind
    have hlt':t<vs.size:=by omega
    rw[aau,Z7 hlt']
    grind
   grind [aA.mono,FV.av]
 .have hN':Gf args γ o=some v:=hN
  grind [Gf]
def AW(a a':Arg):Prop:=
 (∃e r l,a=.own e r l/\a'=.own e r l)\/(∃cs cs',a=.ptr cs/\a'=.ptr cs'/\∀(X:V) vs,ah X cs vs->ah X cs' vs)\/
 ((∀(X:V) v,aA X a.av v->aA X a'.av v)/\(∀i,a.SQ i=a.av)/\(∀i,a'.SQ i=a'.av)/\(∀e r l,a≠ .own e r l)/\(∀cs,a≠ .ptr cs)/\(∀e r l,a'≠ .own e r l)/\(∀cs,a'≠ .ptr cs))
theorem bP.NR{s:bP}{x:Arg}{d:s.den}(h:s.read x=some d):AW x (s.val d):=by
 refine .inr (.inr ⟨λX v hv=>?_,?_⟩)
 .have hx:jQ X x v:=by
   cases x with
   |sv _|kp _|fn _ _=>exact hv
   |own _ _ _|ptr _=>cases s<;>simp[bP.read]at h
  grind [jQ.av,bP.weak]
 .cases x<;>cases s<;>first
   |(simp[bP.read]at h;done)
   |exact⟨λ_=>rfl,λ_=>rfl,(λ_ _ _ e=>by cases e),(λ_ e=>by cases e),(λ_ _ _ e=>by cases e),(λ_ e=>by cases e)⟩
theorem bU.NR{s:bU}{x:Arg}{d:s.den}(h:s.read x=some d):AW x (s.val d):=by
 unfold bU.read at h;split at h
 .exact bP.NR h
 .next e r f s l=>
  split at h
  .next hb=>
   split at h
   .next hs=>cases h;have he:=YX hb;subst he;have hsr:=aj.eq_of_beq s r hs;subst hsr;exact .inl ⟨e,s,l,rfl,rfl⟩
   .cases h
  .cases h
 .next l cs=>exact .inr (.inl ⟨cs,_,rfl,rfl,λX vs hc=>nN _ _ _ _ h hc⟩)
 .cases h
theorem rO:∀{l:List bU}{xs:List Arg}{d:iE l},iM l xs=some d->(jE l d).length=xs.length/\∀(i:Nat)(a:Arg),xs[i]? =some a->∃a',(jE l d)[i]? =some a'/\AW a a'
 |[],[],_,_=>⟨rfl,λi a h=>by simp at h⟩
 |s::r,x::xs,d,h=>by
  rw[iM]at h;split at h
  .next a b h1 h2=>
   cases h;obtain⟨g1,g2⟩:=rO h2;refine⟨by simp[jE,g1],λi c hc=>?_⟩;cases i with
   |zero=>simp at hc;subst hc;exact⟨_,rfl,bU.NR h1⟩
   |succ i=>obtain⟨c',k1,k2⟩:=g2 i c (by simpa using hc);exact⟨c',by simpa[jE]using k1,k2⟩
  .cases h
 |[],_::_,_,h=>by simp[iM]at h
 |_::_,[],_,h=>by simp[iM]at h
theorem Ht{args:List Arg}{o:Nat}(h:∀b,args[o / 64]? =some b->(∀e r l,b≠ .own e r l)/\∀cs,b≠ .ptr cs):aZ args o=none:=by
 unfold aZ;split
 · grind
 · grind
 .rfl
theorem yc{sh:List bU}{args:List Arg}{x:iE sh}(h:iM sh args=some x)(n:Nat):Covers (nP n (jE sh x)) (nP n args):=by
 obtain⟨hl,hget⟩:=rO h;refine⟨rfl,λt X v hv=>?_,λo=>?_⟩
 .simp only[nP]at hv ⊢;cases ha:args[t]? with
  |none=>
   grind
  |some b=>
   obtain⟨b',hb',hw⟩:=hget t b ha;rw[ha]at hv;rw[hb'];rcases hw with⟨e,r,l,rfl,rfl⟩|⟨cs,cs',rfl,rfl,_⟩|⟨hw,e1,e2,_⟩
   .exact hv
   .exact hv
   grind
 .show(aZ (jE sh x) o=none/\aZ args o=none)\/∃y y',aZ args o=some y/\aZ (jE sh x) o=some y'/\qc y y';cases ha:args[o / 64]? with
  |none=>
   grind [Ht]
  |some b=>
   obtain⟨b',hb',hw⟩:=hget _ b ha;rcases hw with⟨e,r,l,rfl,rfl⟩|⟨cs,cs',rfl,rfl,hc⟩|⟨_,_,_,n1,n2,n3,n4⟩
   .unfold aZ;rw[ha,hb'];cases hm:Nat.beq (o%64) 49 with
    |true=>exact .inr ⟨_,_,rfl,rfl,.inr ⟨e,r,l,false,false,rfl,rfl,id⟩⟩
    |false=>grind
   .unfold aZ;rw[ha,hb'];cases hm:Nat.beq (o%64) 48 with
    |true=>exact .inr ⟨_,_,rfl,rfl,.inl ⟨cs,cs',rfl,rfl,hc⟩⟩
    |false=>grind
   grind [Ht]
theorem Bq(a b:List (Nat×ak))(p:Nat):look (a++b) p=match look b p with|some y=>some y|none=>look a p:=by
 induction a with
 |nil=>grind [look]
 |cons x a ih=>
  grind [look]
theorem jT:∀(cs:List aW)(k p:Nat)(x:ak),look (dA k cs).2 p=some x↔∃i e r l fr,p=k+i/\cs[i]? =some (.own e r l fr)/\x=.arr e r l fr
 |[],k,p,x=>by simp[dA,look]
 |c::cs,k,p,x=>by
  rw[dA,Bq];have ih:=jT cs (k+1) p x;constructor
  .intro h;split at h
   .next y hy=>cases h;obtain⟨i,e,r,l,fr,h1,h2,h3⟩:=(jT cs (k+1) p x).1 hy;exact⟨i+1,e,r,l,fr,by omega,by simpa using h2,h3⟩
   .next hn=>
    cases c with
    |plain c=>simp[aW.take,look]at h
    |own e r l fr=>
     simp only[aW.take,look]at h;split at h
     .next hb=>cases h;exact⟨0,e,r,l,fr,by simp_all,rfl,rfl⟩
     .cases h
  .rintro⟨i,e,r,l,fr,h1,h2,rfl⟩;cases i with
   |succ i=>
    grind
   |zero=>
    have hn:look (dA (k+1) cs).2 p=none:=by
     cases hl:look (dA (k+1) cs).2 p with
     |none=>rfl
     |some y=>obtain⟨i,_,_,_,_,g1,_⟩:=(jT cs (k+1) p y).1 hl;omega
    simp_all [aW.take,look]
def rP(rs:List (Bool×List aW)):List aW:=rs.flatMap (·.2)
theorem LD(k:Nat)(x:Bool×List aW):(jv k x).2=(dA k x.2).2:=by
 unfold jv;split
 · grind
 · grind
 grind
theorem kW:∀(rs:List (Bool×List aW))(k p:Nat)(x:ak),look (bG k rs).2 p=some x↔∃i e r l fr,p=k+i/\(rP rs)[i]? =some (.own e r l fr)/\x=.arr e r l fr
 |[],k,p,x=>by simp[bG,look,rP]
 |y::rs,k,p,x=>by
  rw[bG,Bq,LD];have VQ:rP (y::rs)=y.2++rP rs:=rfl;constructor
  .intro h;split at h
   .next z hz=>
    cases h;obtain⟨i,e,r,l,fr,h1,h2,h3⟩:=(kW rs (k+y.2.length) p x).1 hz;refine⟨y.2.length+i,e,r,l,fr,by omega,?_,h3⟩
    grind
   .obtain⟨i,e,r,l,fr,h1,h2,h3⟩:=(jT y.2 k p x).1 h;refine⟨i,e,r,l,fr,h1,?_,h3⟩
    grind
  .rintro⟨i,e,r,l,fr,h1,h2,rfl⟩;rw[VQ]at h2;rcases Zp i y.2.length with hlt|hge
   .rw[ZT hlt]at h2;have hn:look (bG (k+y.2.length) rs).2 p=none:=by
     cases hl:look (bG (k+y.2.length) rs).2 p with
     |none=>rfl
     |some z=>obtain⟨j,_,_,_,_,g1,_⟩:=(kW rs (k+y.2.length) p z).1 hl;omega
    rw[hn];exact(jT y.2 k p _).2 ⟨i,e,r,l,fr,h1,h2,rfl⟩
   .rw[aaw hge]at h2;have:=(kW rs (k+y.2.length) p (.arr e r l fr)).2 ⟨i-y.2.length,e,r,l,fr,by omega,h2,rfl⟩;rw[this]
end Go.Fw
namespace Go.Fw
open Go
set_option linter.unusedVariables false
variable {P:Program} {w0:World} {M:Nat->Prop} {T:Ext} {γ γ':Nat->Value} {st:St} {a:Act} {w w':World} {Θ:bJ} {Γ:dn}
def RF(Y:V)(c:aW)(v:Value)(n:Option Nat):Prop:=
 match c with
 |.plain x=>ay Y x v/\x.refs=[]
 |.own e r l fr=>0<r.len/\((∃o g,n=some o/\Y.af o=some (.arr e r l g)/\tq fr g=true/\v=Y.γ o/\v.oneCell'=true)\/(l=[]/\v=.slice none 0 0))
def nR(Y:V):List aW->List Value->List (Option Nat)->Prop
 |[],[],[]=>True
 |c::cs,v::vs,n::ns=>RF Y c v n/\nR Y cs vs ns
 |_,_,_=>False
theorem nR.append{Y:V}:∀(cs:List aW)(vs:List Value)(ns:List (Option Nat))(ds:List aW)(us:List Value)(ms:List (Option Nat)),nR Y cs vs ns->nR Y ds us ms->nR Y (cs++ds) (vs++us) (ns++ms)
 |[],[],[],_,_,_,_,h=>h
 |_::cs,_::vs,_::ns,ds,us,ms,⟨h1,h2⟩,h=>⟨h1,nR.append cs vs ns ds us ms h2 h⟩
theorem nR.length{Y:V}:∀(cs:List aW)(vs:List Value)(ns:List (Option Nat)),nR Y cs vs ns->cs.length=vs.length
 |[],[],[],_=>rfl
 |_::cs,_::vs,_::ns,⟨_,h2⟩=>by simp[nR.length cs vs ns h2]
theorem nR.get{Y:V}:∀(cs:List aW)(vs:List Value)(ns:List (Option Nat))(i:Nat)(c:aW),nR Y cs vs ns->cs[i]? =some c->∃v n,vs[i]? =some v/\ns[i]? =some n/\RF Y c v n
 |[],[],[],i,c,_,h=>by simp at h
 |x::cs,v::vs,n::ns,0,c,⟨h1,_⟩,h=>by grind
 |x::cs,v::vs,n::ns,i+1,c,⟨_,h2⟩,h=>by obtain⟨u,m,g1,g2,g3⟩:=nR.get cs vs ns i c h2 (by simpa using h);exact⟨u,m,by simpa using g1,by simpa using g2,g3⟩
theorem aY.Hu(c:aY)(x:Cell)(d:c.den)(h:c.read x=some d)(hx:x.refs=[]):(c.cell d).refs=[]:=by cases c<;>cases x<;>first|rfl|(simp[aY.read]at h;done)|(cases hx)
theorem RC.MB{Y:V}(hst:Y.af=st.af)(hpos:∀o e r l g,st.af o=some (.arr e r l g)->0<r.len):∀(c:RC)(x:Cell)(d:c.den)(v:Value),c.read st x=some d->ay Y x v->RF Y (c.NQ d) v (c.name x):=by
 intro c x d v hr hv;cases c with
 |c s=>
  rw[RC.read]at hr;split at hr
  .next hx=>exact⟨aY.weak s x d v hr hv,aY.Hu s x d hr hx⟩
  .cases hr
 |own e r fr=>
  cases x with
  |ref o=>
   simp only[RC.read]at hr;split at hr
   .next f s l g ho=>
    split at hr
    .next hb=>
     split at hr
     .next hs=>cases hr;rw[YZ]at hb;have he:=YX hb.1;subst he;have hsr:=aj.eq_of_beq s r hs;subst hsr;exact⟨hpos _ _ _ _ _ ho,.inl ⟨o,g,rfl,by rw[hst];exact ho,hb.2,hv.2.1,hv.2.2⟩⟩
     .cases hr
    .cases hr
   .cases hr
  |nil=>
   simp only[RC.read]at hr;split at hr
   .next hb=>cases hr;exact⟨Zc Nat.zero_lt_one (by simp_all),.inr ⟨rfl,hv⟩⟩
   .cases hr
  |_=>simp[RC.read]at hr
theorem Ec{Y:V}(hst:Y.af=st.af)(hpos:∀o e r l g,st.af o=some (.arr e r l g)->0<r.len):∀(l:List RC)(xs:List Cell)(d:D9 l)(vs:List Value),vV st l xs=some d->ah Y xs vs->nR Y (F8 l d) vs (F9 l xs)
 |[],[],_,[],_,_=>trivial
 |c::r,x::xs,d,v::vs,h,⟨h1,h2⟩=>by
  rw[vV]at h;split at h
  .next a b g1 g2=>cases h;exact⟨RC.MB hst hpos c x a v g1 h1,Ec hst hpos r xs b vs g2 h2⟩
  .cases h
 |[],_::_,_,_,h,_=>by simp[vV]at h
 |_::_,[],_,_,h,_=>by simp[vV]at h
theorem fB.JU{Y:V}(hst:Y.af=st.af)(hpos:∀o e r l g,st.af o=some (.arr e r l g)->0<r.len):∀(s:fB)(x:SV)(d:s.den)(v:Value),s.read st x=some d->aP Y x v->nR Y (s.out d).2 v.cells.toList (s.names x)
 |.one c,.one x,d,v,h,hv=>by
  rw[oQ v (ay.one x v hv)];exact⟨RC.MB hst hpos c x d v h hv,trivial⟩
 |.agg l,.agg xs,d,v,h,⟨vs,hv,hc⟩=>by
  rw[hv];exact Ec hst hpos l xs d _ h hc
 |.one _,.agg _,_,_,h,_|.agg _,.one _,_,_,h,_=>by simp[fB.read]at h
theorem Ed{Y:V}(hst:Y.af=st.af)(hpos:∀o e r l g,st.af o=some (.arr e r l g)->0<r.len):∀(l:List fB)(xs:List SV)(d:mW l)(vs:List Value),l9 st l xs=some d->aN Y xs vs->
 nR Y (rP (bQ l d)) (vs.flatMap λv=>v.cells.toList) (lD l xs)
 |[],[],_,[],_,_=>trivial
 |s::r,x::xs,d,v::vs,h,⟨h1,h2⟩=>by
  rw[l9]at h;split at h
  .next a b g1 g2=>cases h;exact nR.append _ _ _ _ _ _ (fB.JU hst hpos s x a v g1 h1) (Ed hst hpos r xs b vs g2 h2)
  .cases h
 |[],_::_,_,_,h,_=>by simp[l9]at h
 |_::_,[],_,_,h,_=>by simp[l9]at h
def Wx(Z:V)(k:Nat)(c:aW)(v:Value):Prop:=ay Z (c.take k).1 v
def pU(Z:V):Nat->List aW->List Value->Prop
 |_,[],[]=>True
 |k,c::cs,v::vs=>Wx Z k c v/\pU Z (k+1) cs vs
 |_,_,_=>False
theorem pU.of{Z:V}:∀(cs:List aW)(vs:List Value)(k:Nat),cs.length=vs.length->(∀i c v,cs[i]? =some c->vs[i]? =some v->Wx Z (k+i) c v)->pU Z k cs vs
 |[],[],_,_,_=>trivial
 |c::cs,v::vs,k,hl,h=>⟨h 0 c v rfl rfl,pU.of cs vs (k+1) (by simpa using hl) λi c' v' h1 h2=>by
   have:=h (i+1) c' v' (by simpa using h1) (by simpa using h2)
   grind⟩
theorem pU.split{Z:V}:∀(cs:List aW)(vs:List Value)(ds:List aW)(us:List Value)(k:Nat),cs.length=vs.length->pU Z k (cs++ds) (vs++us)->pU Z k cs vs/\pU Z (k+cs.length) ds us
 |[],[],_,_,_,_,h=>⟨trivial,h⟩
 |c::cs,v::vs,ds,us,k,hl,⟨h1,h2⟩=>by obtain⟨g1,g2⟩:=pU.split cs vs ds us (k+1) (by simpa using hl) h2;exact⟨⟨h1,g1⟩,by grind⟩
theorem pU.cells{Z:V}:∀(cs:List aW)(vs:List Value)(k:Nat),pU Z k cs vs->ah Z (dA k cs).1 vs
 |[],[],_,_=>trivial
 |c::cs,v::vs,k,⟨h1,h2⟩=>⟨h1,pU.cells cs vs (k+1) h2⟩
theorem fB.go{Y Z:V}:∀(s:fB)(x:SV)(d:s.den)(v:Value)(k:Nat),s.read st x=some d->aP Y x v->pU Z k (s.out d).2 v.cells.toList->aP Z (jv k (s.out d)).1 v
 |.one c,.one x,d,v,k,h,hv,hg=>by
  rw[oQ v (ay.one x v hv)]at hg;exact hg.1
 |.agg l,.agg xs,d,v,k,h,⟨vs,hv,hc⟩,hg=>by
  rw[hv]at hg ⊢;exact⟨vs,rfl,pU.cells _ _ _ hg⟩
 |.one _,.agg _,_,_,_,h,_,_|.agg _,.one _,_,_,_,h,_,_=>by simp[fB.read]at h
theorem Hw{Y Z:V}(hst:Y.af=st.af)(hpos:∀o e r l g,st.af o=some (.arr e r l g)->0<r.len):∀(l:List fB)(xs:List SV)(d:mW l)(vs:List Value)(k:Nat),l9 st l xs=some d->aN Y xs vs->
 pU Z k (rP (bQ l d)) (vs.flatMap λv=>v.cells.toList)->aN Z (bG k (bQ l d)).1 vs
 |[],[],_,[],_,_,_,_=>trivial
 |s::r,x::xs,d,v::vs,k,h,⟨h1,h2⟩,hg=>by
  rw[l9]at h;split at h
  .next a b g1 g2=>cases h;have hl:=nR.length _ _ _ (fB.JU hst hpos s x a v g1 h1);obtain⟨k1,k2⟩:=pU.split _ _ _ _ k hl hg;exact⟨fB.go s x a v k g1 h1 k1,Hw hst hpos r xs b vs _ g2 h2 k2⟩
  .cases h
 |[],_::_,_,_,_,h,_,_=>by simp[l9]at h
 |_::_,[],_,_,_,h,_,_=>by simp[l9]at h
theorem Bv:∀(l:List aY)(xs:List Cell)(d:dJ l),bY l xs=some d->xs.flatMap Cell.refs=[]->(bD l d).flatMap Cell.refs=[]
 |[],[],_,_,_=>rfl
 |c::r,x::xs,d,h,hx=>by
  rw[bY]at h;split at h
  .next a b g1 g2=>cases h;rw[Zt,Zk]at hx;show(c.cell a::bD r b).flatMap Cell.refs=[];rw[Zt,aY.Hu c x a g1 hx.1,Bv r xs b g2 hx.2,ZJ]
  .cases h
 |[],_::_,_,h,_=>by simp[bY]at h
 |_::_,[],_,h,_=>by simp[bY]at h
theorem rQ:∀(sh:List bU)(i:Nat)(b:lU sh),qO st i sh=some b->∀(j:Nat)(e:Eff),(dB sh b)[j]? =some e->
 e=.lose\/∃l cs cs0,sh[j]? =some (.ptr l)/\e=.var cs/\st.af ((i+j)*64+48)=some (.var cs0)/\cs0.flatMap Cell.refs=[]/\cs.flatMap Cell.refs=[]/\∀(X:V) vs,ah X cs0 vs->ah X cs vs
 |[],_,_,_,j,e,he=>by grind [dB]
 |.ptr l::r,i,b,h,j,e,he=>by
  rw[qO]at h;split at h
  .next cs b' hx hb=>
   split at h
   .next a hr ha=>
    cases h;cases j with
    |zero=>
     simp[dB]at he;subst he;exact .inr ⟨l,_,cs,rfl,rfl,by simpa using hx,hr,Bv _ _ _ ha hr,λX vs hc=>nN _ _ _ _ ha hc⟩
    |succ j=>
     rcases rQ r (i+1) b' hb j e (by simpa[dB]using he)with h|⟨l,cs',cs0,h1,h2,h3,h4⟩
     .exact .inl h
     .exact .inr ⟨l,cs',cs0,by simpa using h1,h2,by rw[show i+(j+1)=i+1+j by omega];exact h3,h4⟩
   .cases h
  .cases h
 |.p _::r,i,b,h,j,e,he|.own _ _::r,i,b,h,j,e,he=>by
  rw[qO]at h;cases j with
  |zero=>simp[dB]at he;exact .inl he.symm
  |succ j=>
   rcases rQ r (i+1) b h j e (by simpa[dB]using he)with h|⟨l,cs',cs0,h1,h2,h3,h4⟩
   .exact .inl h
   .exact .inr ⟨l,cs',cs0,by simpa using h1,h2,by rw[show i+(j+1)=i+1+j by omega];exact h3,h4⟩
theorem Ee:∀{sh:List bU}{xs:List Arg}{d:iE sh},iM sh xs=some d->∀(j:Nat)(l:List aY),sh[j]? =some (.ptr l)->∃cs,xs[j]? =some (.ptr cs)
 |[],[],_,_,j,l,h=>by simp at h
 |s::r,x::xs,d,h,j,l,hj=>by
  rw[iM]at h;split at h
  .next a b h1 h2=>
   cases j with
   |zero=>
    simp at hj;subst hj;cases x with
    |ptr cs=>grind
    |_=>simp[bU.read]at h1
   |succ j=>obtain⟨cs,hc⟩:=Ee h2 j l (by simpa using hj);exact⟨cs,by simpa using hc⟩
  .cases h
 |[],_::_,_,h,_,_,_=>by grind
 |_::_,[],_,h,_,_,_=>by simp[iM]at h
theorem Px{sh:List bU}{b:lU sh}(hb:qO st 0 sh=some b){q:Nat}{y:ak}(h:iH (dB sh b) q=some y):
 q%64=48/\∃l cs cs0,sh[q / 64]? =some (.ptr l)/\y=.var cs/\st.af q=some (.var cs0)/\cs0.flatMap Cell.refs=[]/\cs.flatMap Cell.refs=[]/\∀(X:V) vs,ah X cs0 vs->ah X cs vs:=by
 unfold iH at h;split at h
 · grind [rQ]
 · grind [Nat.eq_of_beq_eq_true,rQ]
 .cases h
def bU.iL:(s:bU)->s.den->Prop
 |.p s,x=>s.iL x
 |.own _ r,(l:List r.den)=>∀x∈l,r.iL x
 |.ptr l,x=>Ag l x
def uM:(l:List bU)->iE l->Prop
 |[],_=>True
 |s::r,x=>s.iL x.1/\uM r x.2
theorem bP.Ah{X:V}(s:bP)(x:Arg)(d:s.den)(v:Value)(h:s.read x=some d)(hr:jQ X x v):s.iL d:=
 (l7 (X:=X) [s] (d,()) [v] ⟨bP.weak s x d v h hr,trivial⟩).1
theorem zo{X:V}{args:List Arg}(ho:∀o x,aZ args o=some x->aB X o x):∀(sh:List bU)(xs:List Arg)(d:iE sh)(vs:List Value)(i:Nat),(∀j a,xs[j]? =some a->args[i+j]? =some a)->
 iM sh xs=some d->oZ X i xs vs->uM sh d
 |[],[],_,_,_,_,_,_=>trivial
 |s::r,x::xs,d,v::vs,i,hj,h,⟨hv,hvs⟩=>by
  rw[iM]at h;split at h
  .next a b h1 h2=>
   cases h;refine⟨?_,zo ho r xs b vs (i+1) (λj c hc=>by have:=hj (j+1) c (by simpa using hc);grind) h2 hvs⟩;have hx:args[i]? =some x:=hj 0 x rfl;cases s with
   |p s=>
    have h1':s.read x=some a:=by grind [bU.read]
    refine bP.Ah (X:=X) s x a v h1' ?_;cases x with
    |own _ _ _|ptr _=>cases s<;>simp[bP.read]at h1'
    |_=>exact hv
   |own e r'=>
    cases x with
    |own f s' l=>
     have h1':(match Nat.beq e f with|true=>if h:s'.beq r'=true then some (jd h l)else none|false=>none)=some a:=h1;split at h1'
     .split at h1'
      .next hb hs=>
       cases h1';have hsr:=aj.eq_of_beq s' r' hs;subst hsr;have lK:aZ args (i*64+49)=some (.arr f s' l false):=by
        unfold aZ;rw[show(i*64+49) / 64=i by omega,hx]
        simp_all
       obtain⟨us,_,_,_,hrow⟩:=ho _ _ lK;intro y hy;have hy':y∈l:=hy;obtain⟨j,hj1,hj2⟩:=aan.1 hy';exact aC.iL s' _ _ (hrow j y (by grind))
      .cases h1'
     .cases h1'
    |_=>simp[bU.read]at h1
   |ptr l=>
    cases x with
    |ptr cs=>
     have h1':bY l cs=some a:=h1;have lK:aZ args (i*64+48)=some (.var cs):=by
      unfold aZ;rw[show(i*64+48) / 64=i by omega,hx]
      simp_all
     obtain⟨_,arr,_,_,_,hc⟩:=ho _ _ lK;exact qN l a _ (nN _ _ _ _ h1' hc)
    |_=>simp[bU.read]at h1
  .cases h
 |[],_::_,_,_,_,_,h,_=>by simp[iM]at h
 |_::_,[],_,_,_,_,h,_=>by simp[iM]at h
theorem qW:∀(l:List bU)(d:iE l),(jE l d).length=l.length
 |[],_=>rfl
 |_::r,d=>by simp[jE,qW r d.2]
theorem Out.Qz(rs:List (Bool×List aW))(k:Nat):((⟨rs,none⟩:Out).take k).2=(bG k rs).2:=by
 grind [Out.take]
theorem Out.QB(rs:List (Bool×List aW))(k:Nat):((⟨rs,none⟩:Out).take k).1=(match (bG k rs).1 with|[v]=>AV.sv v|vs=>.dO vs):=by
 grind [Out.take]
theorem WZ{args:List Arg}{S:Nat->Prop}{sh:List bU}{aT:List fB}{x:iE sh}(hx:iM sh args=some x){d:mW aT}{b:lU sh}{k:Nat}{vs:List SV}{us:List Value}
 (hR:Rel w (kH (aZ args) γ) (zn args γ S) γ' st a w') (hrs:aN (ai w (zn args γ S) γ' st w') vs us) (hnd:jP (lD aT vs)=true) (hrd:l9 st aT vs=some d) (hbk:qO st 0 sh=some b)
 (hap:∀o x,look ((⟨bQ aT d,none⟩:Out).take k).2 o=some x->iH (dB sh b) o=none):
 ∃γ2,aA ⟨w',w.heap.size,iK S args (dB sh b) γ,γ2,look ((⟨bQ aT d,none⟩:Out).take k).2⟩ ((⟨bQ aT d,none⟩:Out).take k).1 (if h:us.toArray.size=1 then us.toArray[0]else .tuple us.toArray)/\
  (∀o x,look ((⟨bQ aT d,none⟩:Out).take k).2 o=some x->aB ⟨w',w.heap.size,iK S args (dB sh b) γ,γ2,look ((⟨bQ aT d,none⟩:Out).take k).2⟩ o x/\
    ∀b',blk (γ2 o)=some b'->b'<w'.heap.size/\(w.heap.size<=b'\/kH (aZ args) γ b')/\∀q y,iH (dB sh b) q=some y->blk (γ q)≠some b')/\
  (∀o x q y b',look ((⟨bQ aT d,none⟩:Out).take k).2 o=some x->look ((⟨bQ aT d,none⟩:Out).take k).2 q=some y->o≠q->blk (γ2 o)=some b'->blk (γ2 q)≠some b')/\
  (∀o x,iH (dB sh b) o=some x->γ2 o=γ o/\aB ⟨w',w.heap.size,iK S args (dB sh b) γ,γ2,look ((⟨bQ aT d,none⟩:Out).take k).2⟩ o x):=by
 rw[Out.Qz]at hap ⊢;rw[Out.QB]
 skip
 let Y:V:=ai w (zn args γ S) γ' st w'
 let fv:List Value:=us.flatMap λv=>v.cells.toList
 let au:=dB sh b
 let γ2:Nat->Value:=λp=>match iH au p with|some _=>γ p|none=>fv.getD (p-k) undef
 let Z:V:=⟨w',w.heap.size,iK S args au γ,γ2,look (bG k (bQ aT d)).2⟩
 have hpos:∀o e r l g,st.af o=some (.arr e r l g)->0<r.len:=λo e r l g ho=>by obtain⟨_,_,h,_⟩:=hR.af o _ ho;exact h
 have hF:nR Y (rP (bQ aT d)) fv (lD aT vs):=Ed (st:=st) rfl hpos aT vs d us hrd hrs;have hbq:∀q y,iH au q=some y->γ' q=γ q/\∃cs cs0,y=.var cs/\st.af q=some (.var cs0)/\cs0.flatMap Cell.refs=[]/\cs.flatMap Cell.refs=[]/\∀(X:V) vs,ah X cs0 vs->ah X cs vs:=by
  intro q y hq;obtain⟨hm,l,cs,cs0,h1,h2,h3,h4,h5,h6⟩:=Px hbk hq;refine⟨?_,cs,cs0,h2,h3,h4,h5,h6⟩;obtain⟨ci,hci⟩:=Ee hx _ l h1;have ho:aZ args q=some (.var ci):=by
   simp_all [aZ]
  have hN:(zn args γ S).N q=some (γ q):=by
   show Gf args γ q=_
   grind [Gf]
  exact hR.pin q _ _ hN h3
 have hG:∀p X,look (bG k (bQ aT d)).2 p=some X->∃i e r l fr,p=k+i/\(rP (bQ aT d))[i]? =some (.own e r l fr)/\X=.arr e r l fr/\0<r.len/\
  ((∃o g,(lD aT vs)[i]? =some (some o)/\st.af o=some (.arr e r l g)/\tq fr g=true/\γ2 p=γ' o/\(γ2 p).oneCell'=true)\/(l=[]/\γ2 p=.slice none 0 0)):=by
  intro p X hp;obtain⟨i,e,r,l,fr,h1,h2,h3⟩:=(kW _ k p X).1 hp;obtain⟨v,n,g1,g2,hr,hv⟩:=nR.get _ _ _ i _ hF h2
  grind
 have Ae:∀b',Y.foot b'->Z.foot b':=by
  intro b' hb';refine⟨hb'.1,λhlt=>⟨hb'.2.1 hlt,λq y hq=>?_⟩,λp X hp=>?_⟩
  .obtain⟨hγ,cs,cs0,_,h3,_⟩:=hbq q y hq;rw[← hγ];exact hb'.2.2 q _ h3
  .obtain⟨i,e,r,l,fr,_,_,_,_,hc⟩:=hG p X hp;show blk (γ2 p)≠some b';rcases hc with⟨o,g,_,ho,_,hγ,_⟩|⟨_,hγ⟩
   .rw[hγ];exact hb'.2.2 o _ ho
   .rw[hγ];intro h;cases h
 have Py:∀fr b',Y.aH fr b'->Z.aH fr b':=λfr b' h=>⟨Ae b' h.1,h.2⟩;have hgo:pU Z k (rP (bQ aT d)) fv:=by
  refine pU.of _ _ _ (nR.length _ _ _ hF) λi c v hc hv=>?_;obtain⟨v',n,g1,g2,g3⟩:=nR.get _ _ _ i c hF hc;rw[hv]at g1;cases g1;cases c with
  |plain x=>
   exact(oC (Y:=Y) (Z:=Z) rfl Py [x] [v] (by simpa using g3.2) ⟨g3.1,trivial⟩).1
  |own e r l fr=>
   have hp:look (bG k (bQ aT d)).2 (k+i)=some (.arr e r l fr):=(kW _ k _ _).2 ⟨i,e,r,l,fr,rfl,hc,rfl⟩;have hγ:γ2 (k+i)=v:=by
    grind
   refine⟨⟨e,r,l,fr,hp⟩,hγ.symm,?_⟩;rcases g3.2 with⟨_,_,_,_,_,_,h⟩|⟨_,h⟩
   .exact h
   .rw[h];rfl
 have hsv:aN Z (bG k (bQ aT d)).1 us:=Hw (st:=st) (Y:=Y) rfl hpos aT vs d us k hrd hrs hgo;refine⟨γ2,?_,λp X hp=>?_,λp X q X' b' hp hq hne hb1 hb2=>?_,λq y hq=>?_⟩
 .have hl:=aN.length _ _ hsv
  match hm:(bG k (bQ aT d)).1,us,hsv,hl with
  |[v],[u],hk,_=>exact hk.1
  |[],[],hk,_=>exact⟨_,by simp,hk⟩
  |v::v2::r,u::u2::us,hk,hl=>exact⟨_,by simp,hk⟩
  |[],_::_,hk,h4|_::_,[],hk,h4|[_],_::_::_,hk,h4|_::_::_,[_],hk,h4=>simp at h4
 .obtain⟨i,e,r,l,fr,_,_,rfl,hr,hc⟩:=hG p X hp;rcases hc with⟨o,g,_,ho,hb,hγ,_⟩|⟨rfl,hγ⟩
  .have hO:aB Y o (.arr e r l g):=hR.af o _ ho;have hold:∀b',blk (γ' o)=some b'->fr=true->w.heap.size<=b':=by
    intro b' hb' hfr;subst hfr;have hg:g=true:=hb;subst hg;obtain⟨_,_,_,hn,_⟩:=hO
    grind
   refine⟨aB.F6 (Y:=Y) (Z:=Z) hO hγ rfl (λb' hb'=>⟨Ae b' hb'.1,λhfr=>hb'.2 ?_⟩) hold,λb' hb'=>?_⟩
   .subst hfr;exact hb
   .rw[hγ]at hb';obtain⟨h1,h2⟩:=hR.lt o _ b' ho hb';refine⟨h1,h2,λq y hq=>?_⟩;obtain⟨SE,cs,cs0,_,h3,_⟩:=hbq q y hq;rw[← SE];refine hR.sep o _ q _ b' ho h3 ?_ hb'
    grind
  .refine⟨⟨[],⟨by simp,.inl ⟨hγ,rfl⟩⟩,hr,(λb' hb'=>by grind [blk]),λi x hi=>by simp at hi⟩,λb' hb'=>by rw[hγ]at hb';cases hb'⟩
 .obtain⟨i,e,r,l,fr,hi,_,_,_,hc⟩:=hG p X hp;obtain⟨j,e',r',l',fr',hj,_,_,_,hc'⟩:=hG q X' hq;rcases hc with⟨o,g,hn,ho,_,hγ,_⟩|⟨_,hγ⟩
  .rcases hc' with⟨o',g',hn',ho',_,GV,_⟩|⟨_,GV⟩
   .rw[hγ]at hb1;rw[GV]at hb2;have:o≠o':=by
     grind [vk]
    exact hR.sep o _ o' _ b' ho ho' this hb1 hb2
   .rw[GV]at hb2;cases hb2
  .rw[hγ]at hb1;cases hb1
 .obtain⟨hγ,cs,cs0,rfl,h3,h4,h5,h6⟩:=hbq q y hq;have lY:γ2 q=γ q:=by
   grind
  refine⟨lY,?_⟩;obtain⟨b',arr,t,k1,k2,k3⟩:=hR.af q _ h3;refine⟨b',arr,t,?_,k2,oC (Y:=Y) (Z:=Z) rfl Py _ _ h5 (h6 _ _ k3)⟩
  grind
theorem TP{G:cu}(hE:EnvB P G Θ Γ)(hm:P.follows .mixedOrders=true){f:FuncId}{fn:Func}{c:Code}(hf:P.funcs[f]? =some fn)(hb:fn.body=some c)(H:Hints)
 {sh:List bU} {aT:List fB} {F:iE sh->Prop×(mW aT×lU sh->Prop)} (hn:Nat.ble sh.length fn.ntmps=true) (hne:∀x,(F x).1->∃t,(F x).2 t)
 (hwalk:∀x,uM sh x->(F x).1->o9 Θ Γ H c (I4 Θ fn.results.toList sh aT (F x).2) (nP fn.ntmps (jE sh x))):vO P G f (Qx sh aT F):=by
 intro args p ρ hcon hp;unfold Qx at hcon;split at hcon
 case h_2=>cases hcon
 next x hx=>
 cases hcon;refine⟨hne x hp,λk S γ vs w hG hrep lK hsep hap=>?_⟩;have hlen:=(rO hx).1;rw[qW]at hlen;have hn':args.length<=fn.ntmps:=by simp_all
 have hin:uM sh x:=zo (λo X ho=>(lK o X ho).1) sh args x vs.toList 0 (λj a h=>by grind) hx hrep;have hR0:=Eb (S:=S) fn.ntmps hn' hrep (λo X ho=>⟨(lK o X ho).1,λb hb=>((lK o X ho).2 b hb).1⟩) hsep;have hR1:=hR0.covers (yc hx fn.ntmps);refine calls_of_wp hf hb (zk ⟨hE,hG,λb hb=>?_⟩ hm H c _ _ _ _ _ _ hR1 (hwalk x hin hp) ?_)
 .obtain⟨o,X,ho,hb⟩:=hb
  grind
 intro e s γ' a' w' he hR;have hret:∃(us:List Value)(t:mW aT×lU sh),(fn.results.mapM (qM a'.tmps)).run P w'=.ok us.toArray w'/\(F x).2 t/\∃γ2,
  aA ⟨w',w.heap.size,iK S args (dB sh t.2) γ,γ2,look ((⟨bQ aT t.1,none⟩:Out).take k).2⟩ ((⟨bQ aT t.1,none⟩:Out).take k).1 (if h:us.toArray.size=1 then us.toArray[0]else .tuple us.toArray)/\
  (∀o x',look ((⟨bQ aT t.1,none⟩:Out).take k).2 o=some x'->aB ⟨w',w.heap.size,iK S args (dB sh t.2) γ,γ2,look ((⟨bQ aT t.1,none⟩:Out).take k).2⟩ o x'/\
    ∀b,blk (γ2 o)=some b->b<w'.heap.size/\(w.heap.size<=b\/kH (aZ args) γ b)/\∀q y,iH (dB sh t.2) q=some y->blk (γ q)≠some b)/\
  (∀o x' q y b,look ((⟨bQ aT t.1,none⟩:Out).take k).2 o=some x'->look ((⟨bQ aT t.1,none⟩:Out).take k).2 q=some y->o≠q->blk (γ2 o)=some b->blk (γ2 q)≠some b)/\
  (∀o x',iH (dB sh t.2) o=some x'->γ2 o=γ o/\aB ⟨w',w.heap.size,iK S args (dB sh t.2) γ,γ2,look ((⟨bQ aT t.1,none⟩:Out).take k).2⟩ o x'):=by
  have he':(e=.normal\/e=.ret)/\I4 Θ fn.results.toList sh aT (F x).2 .ret s:=by
   cases e with
   |normal=>exact⟨.inl rfl,he⟩
   |ret=>grind
   |_=>exact he.elim
  have he2:=he'.2;simp only[I4]at he2;split at he2
  .next JS YG=>
   split at he2
   .next vs' hvs'=>
    split at he2
    .next d b hnd hd hb'=>
     have Hr:=hR.freeze (Ea s (lD aT JS));obtain⟨us,hus,hrs⟩:=tC hE.types Hr _ _ hvs';refine⟨us,(d,b),?_,he2,WZ hx Hr hrs hnd hd hb' (hap (d,b) he2)⟩
     simp_all [aay]
    grind
   grind
  grind
 obtain⟨us,t,hus,ht,γ2,h1,h2,h3,h4⟩:=hret;have hfin:bodyPost P fn (λe w'=>∃t,(F x).2 t/\wR S args γ w k ⟨bQ aT t.1,none⟩ (dB sh t.2) e w') .ret a' w':=by
  refine⟨hR.defers,if h:us.toArray.size=1 then us.toArray[0]else .tuple us.toArray,?_,t,ht,_,γ2,rfl,hR.os,hR.tape,hR.output,hR.grow,hR.kept,h1,h2,h3,h4⟩;rw[xk,Zj,hus]
  simp_all
 cases e with
 |normal=>exact hfin
 |ret=>exact hfin
 |_=>exact he.elim
def I5(rv:List ResultVar)(l:List aY)(K:dJ l->Prop)(e:Exit)(st:St):Prop:=
 match e with
 |.normal|.ret=>match rv with
  |[.tmp t]=>match st.tmps t with
   |.bF o off=>match Nat.beq off 0,(st.freeze (uJ st)).af o with
    |true,some (.var cs)=>match cs.flatMap Cell.refs,bY l cs with
     |[],some d=>K d
     |_,_=>False
    |_,_=>False
   |_=>False
  |_=>False
 |_=>False
def loses(sh:List bU):List Eff:=sh.map λ_=>.lose
def QC(sh:List bU)(l:List aY)(F:iE sh->Prop×(dJ l->Prop)):FP:=λargs=>
 match iM sh args with
 |some x=>some ((F x).1,⟨dJ l,(F x).2,λt=>⟨[],some (bD l t)⟩,λ_=>loses sh⟩)
 |none=>none
theorem xw(sh:List bU)(q:Nat):iH (loses sh) q=none:=by
 grind [iH,loses]
theorem vW:∀(l:List aY)(cs:List Cell)(d:dJ l),bY l cs=some d->cs.flatMap Cell.refs=[]->(bD l d).flatMap Cell.refs=[]
 |[],[],_,_,_=>rfl
 |c::l,x::xs,d,h,hn=>by
  rw[bY]at h;rw[Zt,Zk]at hn;split at h
  .next p q hp hq=>
   cases h;show((c.cell p)::bD l q).flatMap Cell.refs=[];rw[Zt,Zk];refine⟨?_,vW l xs q hq hn.2⟩;cases c with
   |ref o=>
    cases x<;>simp[aY.read,Cell.refs]at hp hn
   |_=>rfl
  .cases h
 |[],_::_,_,h,_=>by simp[bY]at h
 |_::_,[],_,h,_=>by simp[bY]at h
theorem TQ{G:cu}(hE:EnvB P G Θ Γ)(hm:P.follows .mixedOrders=true){f:FuncId}{fn:Func}{c:Code}(hf:P.funcs[f]? =some fn)(hb:fn.body=some c)(H:Hints)
 {sh:List bU} {l:List aY} {F:iE sh->Prop×(dJ l->Prop)} (hn:Nat.ble sh.length fn.ntmps=true) (hne:∀x,(F x).1->∃t,(F x).2 t)
 (hwalk:∀x,uM sh x->(F x).1->o9 Θ Γ H c (I5 fn.results.toList l (F x).2) (nP fn.ntmps (jE sh x))):vO P G f (QC sh l F):=by
 intro args p ρ hcon hp;unfold QC at hcon;split at hcon
 case h_2=>cases hcon
 next x hx=>
 cases hcon;refine⟨hne x hp,λk S γ vs w hG hrep lK hsep hap=>?_⟩;have hlen:=(rO hx).1;rw[qW]at hlen;have hn':args.length<=fn.ntmps:=by simp_all
 have hin:uM sh x:=zo (λo X ho=>(lK o X ho).1) sh args x vs.toList 0 (λj a h=>by grind) hx hrep;have hR0:=Eb (S:=S) fn.ntmps hn' hrep (λo X ho=>⟨(lK o X ho).1,λb hb=>((lK o X ho).2 b hb).1⟩) hsep;have hR1:=hR0.covers (yc hx fn.ntmps);refine calls_of_wp hf hb (zk ⟨hE,hG,λb hb=>?_⟩ hm H c _ _ _ _ _ _ hR1 (hwalk x hin hp) ?_)
 .obtain⟨o,X,ho,hb⟩:=hb
  grind
 intro e s γ' a' w' he hR;have he':I5 fn.results.toList l (F x).2 .ret s:=by
  cases e with
  |normal=>exact he
  |ret=>exact he
  |_=>exact he.elim
 have hfin:bodyPost P fn (λe w'=>∃t,(F x).2 t/\wR S args γ w k ⟨[],some (bD l t)⟩ (loses sh) e w') .ret a' w':=by
  simp only[I5]at he';split at he'
  case h_2=>exact he'.elim
  next t YT=>
  split at he'
  case h_2=>exact he'.elim
  next o off JM=>
  split at he'
  case h_2=>exact he'.elim
  next cs hoff hcs=>
  split at he'
  case h_2=>exact he'.elim
  next d hnr hd=>
  have hoff:=YX hoff;subst hoff;have Hr:=hR.freeze (uJ s);have hv:=hR.tmps t;rw[JM]at hv;obtain⟨b,cs0,_,hγ,hval⟩:=hv;obtain⟨b',arr,ty,g1,g2,g3⟩:=Hr.af o _ hcs;have g1:γ' o=.pointer (some ⟨b',0,none⟩):=g1;have hγ:γ' o=.pointer (some ⟨b,0,none⟩):=hγ;rw[hγ]at g1;cases g1;have hblk:blk (γ' o)=some b:=by rw[hγ];rfl
  have hlt:=Hr.lt o _ b hcs hblk
  let γ2:Nat->Value:=λ_=>γ' o
  let Z:V:=⟨w',w.heap.size,iK S args (loses sh) γ,γ2,look (Out.take k ⟨[],some (bD l d)⟩).2⟩
  have hlook:∀q y,look (Out.take k ⟨[],some (bD l d)⟩).2 q=some y->q=k-1/\y=.var (bD l d):=by
   intro q y hq;have hmem:=jL _ q y hq
   grind [Out.take]
  have Ae:∀fr b',(ai w (zn args γ S) γ' (s.freeze (uJ s)) w').aH fr b'->Z.aH fr b':=by intro fr b' hb';refine⟨⟨hb'.1.1,λhlt'=>⟨hb'.1.2.1 hlt',λq y hq=>by grind [xw]⟩,λq y hq=>?_⟩,hb'.2⟩;exact hb'.1.2.2 o _ hcs
  have hcells:ah Z (bD l d) arr.toList:=
   oC (Y:=ai w (zn args γ S) γ' (s.freeze (uJ s)) w') (Z:=Z) rfl Ae _ _ (vW l cs d hd hnr) (nN l cs d _ hd g3)
  have hself:look (Out.take k ⟨[],some (bD l d)⟩).2 (k-1)=some (.var (bD l d)):=by simp[Out.take,look]
  refine⟨hR.defers,a'.tmps.getD t undef,?_,d,he',_,γ2,rfl,hR.os,hR.tape,hR.output,hR.grow,hR.kept,?_,λq y hq=>?_,λq y q' y' b' hq hq' hne'=>?_,λq y hq=>by grind [xw]⟩
  .have:fn.results=#[.tmp t]:=by grind
   have hmap:(Array.mapM (qM a'.tmps) #[ResultVar.tmp t]).run P w'=.ok #[a'.tmps.getD t undef] w':=by
    simp_all [qM]
   rw[xk,this,Zj,hmap];rfl
  .exact⟨b,bD l d,hself,hγ,hval⟩
  .obtain⟨rfl,rfl⟩:=hlook q y hq;refine⟨⟨b,arr,ty,hγ,g2,hcells⟩,λb' hb'=>?_⟩
   grind [xw]
  grind
 cases e with
 |normal=>exact hfin
 |ret=>exact hfin
 |_=>exact he.elim
end Go.Fw
namespace Go.Fw
open Go
def CT.isZero:CT->Value->Bool
 |.int k,.int l n=>decide (k=l)&&decide (n=0)
 |.bool,.bool b=>!b
 |.str,.string s=>s.data.toList.isEmpty
 |.sl _ _,.slice none 0 0=>true
 |_,_=>false
def aj.vX:aj->List Value->Bool
 |.nil,[]=>true
 |.cons c r,v::vs=>c.isZero v&&r.vX vs
 |_,_=>false
theorem CT.Pz:∀(c:CT)(v:Value),c.isZero v=true->v=c.FT:=by
 intro c v h;unfold CT.isZero at h;split at h
 .simp at h;rw[h.1,h.2];rfl
 .simp at h;subst h;rfl
 .next s=>obtain⟨⟨l⟩⟩:=s;simp at h;subst h;rfl
 .rfl
 .cases h
theorem aj.Ef:∀(r:aj)(vs:List Value),r.vX vs=true->vs=r.fG
 |.nil,[],_=>rfl
 |.cons c r,v::vs,h=>by
  rw[vX,YZ]at h;rw[aj.fG,CT.Pz c v h.1,aj.Ef r vs h.2]
 |.nil,_::_,h|.cons _ _,[],h=>by simp[vX]at h
def JV:TypeDesc->TypeDesc->Bool
 |.int k,.int l=>decide (k=l)
 |.bool,.bool=>true
 |.string,.string=>true
 |.slice e,.slice f=>Nat.beq e f
 |_,_=>false
theorem PD:∀(c d:TypeDesc),JV c d=true->c=d:=by
 intro c d h;unfold JV at h;split at h
 · grind
 .rfl
 .rfl
 · simp_all
 .cases h
def tH(P:Program):List (Nat×TypeId)->List Field->Bool
 |[],[]=>true
 |(o,t)::r,f::fs=>Nat.beq o f.offset&&Nat.beq t f.type&&(P.info? f.type).isSome&&tH P r fs
 |_,_=>false
theorem Bz{P:Program}:∀(l:List (Nat×TypeId))(fs:List Field),tH P l fs=true->l=fs.map (λf=>(f.offset,f.type))/\∀f∈fs,(P.info? f.type).isSome=true
 |[],[],_=>⟨rfl,by simp⟩
 |(o,t)::r,f::fs,h=>by
  rw[tH,YZ,YZ,YZ]at h;obtain⟨⟨⟨h1,h2⟩,h3⟩,h4⟩:=h;obtain⟨e,hall⟩:=Bz r fs h4;refine⟨by rw[Zh,← e,YX h1,YX h2],λg hg=>?_⟩;rcases Zl.1 hg with rfl|hg
  .exact h3
  .exact hall g hg
 |[],_::_,h|_::_,[],h=>by simp[tH]at h
def PE(P:Program)(t:TypeId)(ti:TI):Bool:=
 match ti.kind,P.underlying t with
 |.scalar,some d=>match ti.cells.desc with|some c=>JV c d|none=>false
 |.str,some .string=>ti.cells.beq (.cons .str .nil)
 |.slice e,some (.slice f)=>Nat.beq e f&&(match ti.cells with|.cons (.sl g _) .nil=>Nat.beq g e|_=>false)
 |.struct fs,some (.struct lJ)=>tH P fs lJ.toList
 |_,_=>false
def MC(ti:TI)(z:Value):Bool:=match ti.kind with
 |.struct _=>true
 |_=>z.oneCell'
def Gg(P:Program)(t:TypeId)(ti:TI):Bool:=
 match P.info? t with
 |some i=>match i.zero with
  |some z=>Nat.beq i.size ti.cells.len&&Nat.beq i.bytes ti.bytes&&ti.cells.vX z.cells.toList&&MC ti z&&PE P t ti&&Nat.ble ti.bytes 4096&&(!ti.cmp||Ns P t ti.cells)
  |none=>false
 |none=>false
theorem dG.QD{P:Program}{t:TypeId}{ti:TI}(h:Gg P t ti=true):dG P t ti:=by
 unfold Gg at h;split at h
 .next i hi=>
  split at h
  .next z hz=>
   simp only[YZ]at h;obtain⟨⟨⟨⟨⟨⟨h1,h2⟩,h3⟩,h4⟩,h5⟩,h6⟩,h7⟩:=h;refine⟨⟨i,z,hi,YX h1,YX h2,hz,aj.Ef _ _ h3,λhagg=>?_⟩,?_,by simp_all,λe w s u X xs ys vs us b hf hx hy he=>TD (by grind) w s u X xs ys vs us b hf hx hy he⟩
   · grind [MC,TI.agg,oQ]
   grind [PE,PD,aj.eq_of_beq,Nat.eq_of_beq_eq_true,Bz]
  .cases h
 .cases h
def vY(P:Program):List (Nat×TI)->Bool
 |[]=>true
 |(t,ti)::r=>Gg P t ti&&vY P r
theorem JW{P:Program}:∀{l:List (Nat×TI)},vY P l=true->∀t ti,D7 l t=some ti->dG P t ti
 |[],_,t,ti,h=>by cases h
 |(i,x)::r,hc,t,ti,h=>by
  rw[vY,YZ]at hc;rw[D7]at h;cases hb:Nat.beq t i with
  |true=>rw[hb]at h;cases h;rw[YX hb];exact .QD hc.1
  |false=>rw[hb]at h;exact JW hc.2 t ti h
def Ai(fn:Func):Bool:=fn.body.isSome&&!(fn.name== "runtime.NumGoroutine")
theorem vC{P:Program}{f:FuncId}{fn:Func}(hf:P.funcs[f]? =some fn)(hc:Ai fn=true):kJ P f:=by
 intro args w;unfold Ai at hc;have h2:fn.body.isNone=false:=by simp_all
 grind [callFunc,Sem.run_bind,run_program,Result.andThen_ok,Sem.run_pure]
def PG(P:Program)(G:cu)(f:FuncId):pW->Prop
 |.pure c=>jr P G f c/\kJ P f
 |.eff _ c=>vO P G f c/\kJ P f
theorem PI{P:Program}{G:cu}{Θ:bJ}(hT:∀t ti,Θ t=some ti->dG P t ti):∀{l:List (Nat×pW)},(∀x∈l,PG P G x.1 x.2)->EnvB P G Θ (xq l)
 |[],_=>⟨hT,(λf con h=>by cases h),(λf ms con h=>by cases h)⟩
 |(i,c)::r,h=>by
  have ih:=PI (G:=G) hT λx hx=>h x (Y5 _ hx);refine⟨hT,λf con hf=>?_,λf ms con hf=>?_⟩
  .rw[xq]at hf;cases hb:Nat.beq f i with
   |true=>rw[hb]at hf;cases hf;rw[YX hb];exact h (i,.pure con) Y6
   |false=>rw[hb]at hf;exact ih.cons f con hf
  .rw[xq]at hf;cases hb:Nat.beq f i with
   |true=>rw[hb]at hf;cases hf;rw[YX hb];exact h (i,.eff ms con) Y6
   |false=>rw[hb]at hf;exact ih.IZ f ms con hf
end Go.Fw
namespace Go.Fw
open Go
structure PA where
 n:Nat
 sh:List bP
 aT:List gq
 F:iy sh->Prop×nU aT
structure XA where
 n:Nat
 sh:List bU
 aT:List fB
 F:iE sh->Prop×(mW aT×lU sh->Prop)
structure QA where
 n:Nat
 sh:List bU
 aT:List aY
 F:iE sh->Prop×(dJ aT->Prop)
def PA.e(q:PA):Nat×pW:=(q.n,.pure (lW q.sh q.aT q.F))
def XA.e(q:XA):Nat×pW:=(q.n,.eff (Pv q.sh) (Qx q.sh q.aT q.F))
def QA.e(q:QA):Nat×pW:=(q.n,.eff (Pv q.sh) (QC q.sh q.aT q.F))
def Eg(P:Program)(G:cu)(x:Nat×pW):Prop:=PG P G x.1 x.2
def Eh(P:Program)(G:cu):List (Nat×pW)->Prop
 |[]=>True
 |x::l=>Eg P G x/\Eh P G l
theorem QE{P:Program}{G:cu}{l':List (Nat×TI)}(hT:vY P l'=true){l:List (Nat×pW)}(h:Eh P G l):EnvB P G (D7 l') (xq l):=
 PI (JW hT) (by
  induction l with
  |nil=>grind
  |cons y l ih=>exact List.forall_mem_cons.2 ⟨h.1,ih h.2⟩)
def Gh:(l:List aY)->(dJ l->Prop)->Prop
 |[],p=>p ()
 |c::r,p=>∀x:c.den,Gh r λy=>p (x,y)
theorem vZ:∀{l:List aY}{p:dJ l->Prop},Gh l p->∀x,p x
 |[],_,h,()=>h
 |_::_,_,h,(x,y)=>vZ (h x) y
def NS:(l:List (List aY))->(lC l->Prop)->Prop
 |[],p=>p ()
 |c::r,p=>Gh c λx=>NS r λy=>p (x,y)
theorem JX:∀{l:List (List aY)}{p:lC l->Prop},NS l p->∀x,p x
 |[],_,h,()=>h
 |_::_,_,h,(x,y)=>JX (vZ h x) y
def QF:(s:bP)->(s.den->Prop)->Prop
 |.v (.one c),p=>∀x:c.den,p x
 |.v (.agg l),p=>Gh l p
 |.kp l,p=>Gh l p
 |.fn _ l,p=>NS l p
theorem MF:∀{s:bP}{p:s.den->Prop},QF s p->∀x,p x
 |.v (.one _),_,h,x=>h x
 |.v (.agg _),_,h,x=>vZ h x
 |.kp _,_,h,x=>vZ h x
 |.fn _ _,_,h,x=>JX h x
def NT:(l:List bP)->(iy l->Prop)->Prop
 |[],p=>p ()
 |s::r,p=>QF s λx=>NT r λy=>p (x,y)
theorem JY:∀{l:List bP}{p:iy l->Prop},NT l p->∀x,p x
 |[],_,h,()=>h
 |_::_,_,h,(x,y)=>JY (MF h x) y
def UG:(s:bU)->(s.den->Prop)->Prop
 |.p s,p=>QF s p
 |.own _ r,p=>∀x:List r.den,p x
 |.ptr l,p=>Gh l p
theorem TR:∀{s:bU}{p:s.den->Prop},UG s p->∀x,p x
 |.p _,_,h,x=>MF h x
 |.own _ _,_,h,x=>h x
 |.ptr _,_,h,x=>vZ h x
def I7:(l:List bU)->(iE l->Prop)->Prop
 |[],p=>p ()
 |s::r,p=>UG s λx=>I7 r λy=>p (x,y)
theorem CJ:∀{l:List bU}{p:iE l->Prop},I7 l p->∀x,p x
 |[],_,h,()=>h
 |_::_,_,h,(x,y)=>CJ (TR h x) y
abbrev LP{α:Type}(x:α)(f:(α->Prop)->(α->Nat)->α->Prop):Prop:=∃(I:α->Prop),∃(μ:α->Nat),I x/\∀(y:α),I y->f I μ y
abbrev NX{σ α:Type}(s:σ)(I:α->Prop)(μ:α->Nat)(x y:α):Prop:=s=s/\I x/\μ x<μ y
def H0:Hints:=hints [] [] [] [] []
def nD(P:Program)(n:Nat):Func:=match P.funcs[n]? with|some f=>f|none=>default
def qP(P:Program)(n k:Nat):Bool:=P.funcs[n]?.isSome&&Ai (nD P n)&&Nat.ble k (nD P n).ntmps
theorem zq{P:Program}{n k:Nat}(h:qP P n k=true):P.funcs[n]? =some (nD P n)/\(nD P n).body=some (codeOf (nD P n))/\kJ P n/\Nat.ble k (nD P n).ntmps=true:=by
 grind [qP,nD,vC,Ai,codeOf]
def PA.goal(q:PA)(g:(nU q.aT->Prop)->Prop)(x:iy q.sh):Prop:=xu q.sh x->(q.F x).1->g λr=>r=(q.F x).2
def XA.goal(q:XA)(g:(mW q.aT×lU q.sh->Prop)->Prop)(x:iE q.sh):Prop:=uM q.sh x->(q.F x).1->g (q.F x).2
def QA.goal(q:QA)(g:(dJ q.aT->Prop)->Prop)(x:iE q.sh):Prop:=uM q.sh x->(q.F x).1->g (q.F x).2
def PA.say(P:Program)(Θ:bJ)(Γ:dn)(H:Hints)(q:PA):Prop:=bif qP P q.n q.sh.length then NT q.sh λx=>q.goal (λK=>o9 Θ Γ H (codeOf (nD P q.n)) (D8 Θ (nD P q.n).results.toList q.aT K) (entry (nD P q.n).ntmps (jk q.sh x))) x else False
def XA.say(P:Program)(Θ:bJ)(Γ:dn)(H:Hints)(q:XA):Prop:=bif qP P q.n q.sh.length then I7 q.sh λx=>q.goal (λK=>o9 Θ Γ H (codeOf (nD P q.n)) (I4 Θ (nD P q.n).results.toList q.sh q.aT K) (nP (nD P q.n).ntmps (jE q.sh x))) x else False
def QA.say(P:Program)(Θ:bJ)(Γ:dn)(H:Hints)(q:QA):Prop:=bif qP P q.n q.sh.length then I7 q.sh λx=>q.goal (λK=>o9 Θ Γ H (codeOf (nD P q.n)) (I5 (nD P q.n).results.toList q.aT K) (nP (nD P q.n).ntmps (jE q.sh x))) x else False
variable {P:Program} {Θ:bJ} {Γ:dn} {G:cu}
theorem PA.ok{q:PA}(hm:P.follows .mixedOrders=true)(hE:EnvB P G Θ Γ)(H:Hints){p:Prop}
 (hp:q.say P Θ Γ H=p) (h:p):Eg P G q.e:=by
 subst hp;unfold PA.say at h;cases hc:qP P q.n q.sh.length with
 |false=>grind
 |true=>rw[hc]at h;obtain⟨h1,h2,h3,h4⟩:=zq hc;exact⟨TN hE hm h1 h2 H h4 λx hi hx=>JY h x hi hx,h3⟩
theorem XA.ok{q:XA}(hm:P.follows .mixedOrders=true)(hE:EnvB P G Θ Γ)(H:Hints)(hne:∀x,(q.F x).1->∃t,(q.F x).2 t){p:Prop}
 (hp:q.say P Θ Γ H=p) (h:p):Eg P G q.e:=by
 subst hp;unfold XA.say at h;cases hc:qP P q.n q.sh.length with
 |false=>grind
 |true=>rw[hc]at h;obtain⟨h1,h2,h3,h4⟩:=zq hc;exact⟨TP hE hm h1 h2 H h4 hne λx hi hx=>CJ h x hi hx,h3⟩
theorem QA.ok{q:QA}(hm:P.follows .mixedOrders=true)(hE:EnvB P G Θ Γ)(H:Hints)(hne:∀x,(q.F x).1->∃t,(q.F x).2 t){p:Prop}
 (hp:q.say P Θ Γ H=p) (h:p):Eg P G q.e:=by
 subst hp;unfold QA.say at h;cases hc:qP P q.n q.sh.length with
 |false=>grind
 |true=>rw[hc]at h;obtain⟨h1,h2,h3,h4⟩:=zq hc;exact⟨TQ hE hm h1 h2 H h4 hne λx hi hx=>CJ h x hi hx,h3⟩
abbrev aY.i:aY:=.int .i64
abbrev aY.b:aY:=.bool
abbrev aY.s:aY:=.str
abbrev aY.l(e:TypeId)(r:aj):aY:=.sl e r false
abbrev aY.f(e:TypeId)(r:aj):aY:=.sl e r true
abbrev gq.i:gq:=.one .i
abbrev gq.b:gq:=.one .b
abbrev gq.s:gq:=.one .s
abbrev gq.l(e:TypeId)(r:aj):gq:=.one (.l e r)
abbrev gq.f(e:TypeId)(r:aj):gq:=.one (.f e r)
abbrev bP.i:bP:=.v .i
abbrev bP.b:bP:=.v .b
abbrev bP.s:bP:=.v .s
abbrev bP.l(e:TypeId)(r:aj):bP:=.v (.l e r)
abbrev bU.i:bU:=.p .i
abbrev bU.b:bU:=.p .b
abbrev bU.s:bU:=.p .s
abbrev bU.l(e:TypeId)(r:aj):bU:=.p (.l e r)
abbrev RC.i:RC:=.c .i
abbrev RC.b:RC:=.c .b
abbrev RC.s:RC:=.c .s
abbrev RC.l(e:TypeId)(r:aj):RC:=.c (.l e r)
abbrev RC.f(e:TypeId)(r:aj):RC:=.c (.f e r)
abbrev fB.i:fB:=.one .i
abbrev fB.b:fB:=.one .b
abbrev fB.s:fB:=.one .s
abbrev fB.l(e:TypeId)(r:aj):fB:=.one (.l e r)
abbrev fB.f(e:TypeId)(r:aj):fB:=.one (.f e r)
abbrev fB.o(e:TypeId)(r:aj):fB:=.one (.own e r true)
end Go.Fw
namespace Go.Fw
open Go
theorem aI{b:Bool}{A B:Prop}(h1:b=true->A)(h2:b=false->B):cond b A B:=by
 grind
theorem drop_cons{α:Type}(a:List α)(n:Nat)(d:α)(h:n<a.length):a.drop n=a.getD n d::a.drop (n+1):=by
 simp_all
theorem dP(z:Int)(h:-9223372036854775808<=z/\z<=9223372036854775807):IntKind.i64.wrap z=z:=IntWalk.i64_in z (by omega)
theorem maxLen_eq:maxLen=9223372036854775807:=by decide
theorem tJ:big=4294967296:=rfl
theorem getD_mem{α:Type}{l:List α}{n:Nat}{d:α}(h:n<l.length):l.getD n d∈l:=by
 grind
end Go.Fw
namespace Go.Fw
open Go
def UH(w:World)(S:Nat->Prop)(k:Nat)(out:Out)(e:Ending)(w':World):Prop:=
 ∃v vals,e=.returned v/\w'.os=w.os/\w'.tape=w.tape/\w'.output=w.output/\w.heap.size<=w'.heap.size/\
    (∀b,b<w.heap.size->w'.heap[b]? =w.heap[b]?)/\
    aA ⟨w',w.heap.size,S,vals,Fw.look (out.take k).2⟩ (out.take k).1 v/\
    (∀o x,Fw.look (out.take k).2 o=some x->aB ⟨w',w.heap.size,S,vals,Fw.look (out.take k).2⟩ o x/\∀b,blk (vals o)=some b->w.heap.size<=b/\b<w'.heap.size)/\
    (∀o x q y b,Fw.look (out.take k).2 o=some x->Fw.look (out.take k).2 q=some y->o≠q->blk (vals o)=some b->blk (vals q)≠some b)
theorem JZ{w w':World}{S:Nat->Prop}{k:Nat}{s:Bytes}(hos:w'.os=w.os)(htape:w'.tape=w.tape)(hout:w'.output=w.output)(hsize:w.heap.size<=w'.heap.size)
 (UI:∀b,b<w.heap.size->w'.heap[b]? =w.heap[b]?) (hs:s.length<=maxLen):UH w S k ⟨[(false,[.plain (.str s)])],none⟩ (.returned (.string ⟨s.toArray⟩)) w':=
 ⟨_,λ_=>undef,rfl,hos,htape,hout,hsize,UI,⟨rfl,hs⟩,(λo x hx=>by cases hx),(λo x q y b hx=>by cases hx)⟩
end Go.Fw
namespace Go.Fw
open Go
variable {P:Program}
end Go.Fw
namespace Go.Fw
open Go Go.RowKit
def qg:Value->Prop
 |.int _ _=>True
 |.bool _=>True
 |.string _=>True
 |_=>False
def wo(v u:Value):Prop:=v=u\/qg v/\qg u
theorem wo.trans{a b c:Value}(h:wo a b)(k:wo b c):wo a c:=by
 rcases h with rfl|⟨h1,h2⟩
 .exact k
 .rcases k with rfl|⟨k1,k2⟩
  .exact .inr ⟨h1,h2⟩
  .exact .inr ⟨h1,k2⟩
theorem wo.qg{v u:Value}(h:wo v u)(k:Fw.qg v):Fw.qg u:=by
 rcases h with rfl|⟨_,h2⟩
 .exact k
 .exact h2
theorem wo.slice{a:Option Addr}{n c:Nat}{u:Value}(h:wo (.slice a n c) u):u=.slice a n c:=by
 rcases h with rfl|⟨h,_⟩
 .rfl
 .cases h
def CO(vs us:List Value):Prop:=vs.length=us.length/\∀(i:Nat)(v:Value),vs[i]? =some v->∃u,us[i]? =some u/\wo v u
theorem CO.cons{v:Value}{vs us:List Value}(h:CO (v::vs) us):∃u PK,us=u::PK/\wo v u/\CO vs PK:=by
 obtain⟨h1,h2⟩:=h;cases us with
 |nil=>cases h1
 |cons u us=>refine⟨u,us,rfl,?_,Nat.succ.inj h1,λi w hw=>h2 (i+1) w hw⟩;obtain⟨u',e,h⟩:=h2 0 v rfl;cases e;exact h
structure bK(P:Nat->Prop)(W w:World):Prop where
 os:w.os=W.os
 tape:w.tape=W.tape
 output:w.output=W.output
 size:W.heap.size<=w.heap.size
 block:∀b,b<W.heap.size->¬P b->w.heap[b]? =W.heap[b]?
 cells:∀(b:Nat)(cs:Array Value)(t:TypeId)(fz:Nat×Nat),W.heap[b]? =some (Obj.cells cs t fz)->∃cs':Array Value,w.heap[b]? =some (Obj.cells cs' t fz)/\cs'.size=cs.size/\∀(i:Nat)(v:Value),cs[i]? =some v->∃u,cs'[i]? =some u/\wo v u
theorem bK.refl(P:Nat->Prop)(W:World):bK P W W:=⟨rfl,rfl,rfl,Zg _,λ_ _ _=>rfl,λ_ cs _ _ h=>⟨cs,h,rfl,λ_ v hv=>⟨v,hv,.inl rfl⟩⟩⟩
theorem bK.trans{P:Nat->Prop}{a b c:World}(h:bK P a b)(k:bK P b c):bK P a c:=
 ⟨k.os.trans h.os,k.tape.trans h.tape,k.output.trans h.output,Y9 h.size k.size,λx hx hp=>(k.block x (Zc hx h.size) hp).trans (h.block x hx hp),λx cs t fz hx=>by obtain⟨c1,h1,h2,h3⟩:=h.cells x cs t fz hx;obtain⟨c2,k1,k2,k3⟩:=k.cells x c1 t fz h1;refine⟨c2,k1,k2.trans h2,λi v hv=>?_⟩;obtain⟨u,hu,s1⟩:=h3 i v hv;obtain⟨u',hu',s2⟩:=k3 i u hu;exact⟨u',hu',s1.trans s2⟩⟩
theorem bK.of{P:Nat->Prop}{a b:World}(h:Below a.heap.size a b):bK P a b:=
 ⟨h.os,h.tape,h.output,h.size,λx hx _=>h.block x hx,λx cs _ _ hx=>⟨cs,(h.block x (Zd.1 hx).1).trans hx,rfl,λ_ v hv=>⟨v,hv,.inl rfl⟩⟩⟩
theorem xA(P:Nat->Prop)(W:World)(o:Obj):bK P W (W.alloc o):=bK.of ((Below.refl _ _).alloc (Zg _) o)
theorem gu{w:World}{g:Nat}{cur:Array Value}{t:TypeId}{fz:Nat×Nat}(h:w.heap[g]? =some (.cells cur t fz))(k:Nat):w.cell? ⟨g,k,none⟩=cur[k]? :=by simp[World.cell?,h]
theorem J3{w:World}{g:Nat}{cur:Array Value}{t:TypeId}{fz:Nat×Nat}(h:w.heap[g]? =some (.cells cur t fz)){k:Nat}(hk:¬(fz.1<=k/\k<fz.2)):w.frozen? ⟨g,k,none⟩=false:=by obtain⟨lo,hi⟩:=fz;simp only[World.frozen?,h];simp only[Bool.and_eq_false_iff,Za];omega
theorem MG{w:World}{p:Addr}{b:Nat}(v:Value)(h:b≠p.block):(w.setCell p v).heap[b]? =w.heap[b]? :=by simp only[World.setCell,Array.getElem?_modify,if_neg (aas h)]
theorem Gi{w:World}{g:Nat}{cur:Array Value}{t:TypeId}{fz:Nat×Nat}(h:w.heap[g]? =some (.cells cur t fz))(k:Nat)(v:Value):(w.setCell ⟨g,k,none⟩ v).heap[g]? =some (.cells (cur.setIfInBounds k v) t fz):=by simp only[World.setCell,Array.getElem?_modify,if_pos,h];rfl
theorem bK.set{P:Nat->Prop}{W:World}{g i:Nat}{u:Value}(v:Value)(hr:W.cell? ⟨g,i,none⟩=some u)(hu:qg u)(hp:P g)(hv:qg v):bK P W (W.setCell ⟨g,i,none⟩ v):=
 ⟨rfl,rfl,rfl,by simp[World.setCell],λb _ hb=>MG v (λe=>hb (e▸hp)),λb cs t' fz hb=>by
   by_cases e:b=g
   .subst e;refine⟨_,Gi hb i v,Array.size_setIfInBounds,λj x hj=>?_⟩;by_cases hij:i=j
    .subst hij;rw[gu hb,hj]at hr;cases hr;exact⟨v,by rw[aah,if_pos (Zd.1 hj).1],.inr ⟨hu,hv⟩⟩
    .exact⟨x,by rw[aak hij];exact hj,.inl rfl⟩
   .exact⟨cs,(MG v e).trans hb,rfl,λ_ v hv=>⟨v,hv,.inl rfl⟩⟩⟩
theorem bK.slice{P:Nat->Prop}{W w:World}{g i:Nat}{a:Option Addr}{n c:Nat}(h:bK P W w)(hc:W.cell? ⟨g,i,none⟩=some (.slice a n c)):w.cell? ⟨g,i,none⟩=some (.slice a n c):=by
 rcases hW:W.heap[g]? with _|o
 .simp[World.cell?,hW]at hc
 .cases o with
  |cells cs t fz=>
   obtain⟨cs',h1,_,h3⟩:=h.cells g cs t fz hW;rw[gu hW]at hc;obtain⟨u,hu,hs⟩:=h3 i _ hc;rw[gu h1,hu,hs.slice]
  |_=>simp[World.cell?,hW]at hc
theorem bK.mono{P Q:Nat->Prop}{W w:World}(h:bK P W w)(hq:∀b,b<W.heap.size->P b->Q b):bK Q W w:=⟨h.os,h.tape,h.output,h.size,λb hb hn=>h.block b hb λe=>hn (hq b hb e),h.cells⟩
theorem bK.W9{P:Nat->Prop}{G:cu}{W w:World}(h:bK P W w)(hG:G.ok W)(hP:∀b,P b->G.n<=b):G.ok w:=
 G.stable W w hG h.size λb hb=>h.block b (Zc hb (G.low W hG)) λhp=>by have:=hP b hp;omega
def Xa{α:Type}(h:Array Obj)(S:Nat->Prop)(size:Nat)(rep:List Value->α->Prop)(v:Value)(l:List α):Prop:=
 (l=[]/\∃a c,v=.slice a 0 c)\/
  ∃b off cap cs t fz,v=.slice (some ⟨b,off,none⟩) l.length cap/\l.length<=cap/\S b/\h[b]? =some (.cells cs t fz)/\(∀k,k<cs.size->¬(fz.1<=k/\k<fz.2))/\
   ∀i x,l[i]? =some x->rep ((cs.toList.drop (off+i*size)).take size) x
mutual
def jF(h:Array Obj)(S:Nat->Prop):(c:CT)->Value->c.den->Prop
 |.int _,v,_=>qg v
 |.bool,v,_=>qg v
 |.str,v,_=>qg v
 |.sl _ r,v,(l:List r.den)=>Xa h S r.len (λvs x=>ShR h S r vs x) v l
def ShR(h:Array Obj)(S:Nat->Prop):(r:aj)->List Value->r.den->Prop
 |.nil,vs,_=>vs=[]
 |.cons c r,vs,(x,y)=>∃v vs',vs=v::vs'/\jF h S c v x/\ShR h S r vs' y
end
mutual
theorem jF.of{w:World}{S:Nat->Prop}(hu:∀b,S b->GR w b):∀(c:CT)(v:Value)(x:c.den),aU w.heap S c v x->jF w.heap S c v x
 |.int k,v,(n:Int),H=>by rw[aU]at H;rw[jF,H.1];trivial
 |.bool,v,(b:Bool),H=>by rw[aU]at H;rw[jF,H];trivial
 |.str,v,(s:Bytes),H=>by rw[aU]at H;rw[jF,H.1];trivial
 |.sl _ r,v,(l:List r.den),H=>by
  rw[aU]at H;rw[jF];rcases H.2 with h|⟨b,off,cap,cs,t,fz,h1,h2,h3,h4,h5⟩
  .exact .inl h
  .exact .inr ⟨b,off,cap,cs,t,fz,h1,h2,h3,h4,hu b h3 cs t fz h4,λi x hx=>ShR.of hu r _ x (h5 i x hx)⟩
theorem ShR.of{w:World}{S:Nat->Prop}(hu:∀b,S b->GR w b):∀(r:aj)(vs:List Value)(x:r.den),aC w.heap S r vs x->ShR w.heap S r vs x
 |.nil,vs,_,H=>by simpa[aC,ShR]using H
 |.cons c r,vs,(x,y),H=>by rw[aC]at H;rw[ShR];obtain⟨v,vs',e,h1,h2⟩:=H;exact⟨v,vs',e,jF.of hu c v x h1,ShR.of hu r vs' y h2⟩
end
theorem CO.sub{cs cs':Array Value}(hs:cs'.size=cs.size)(h:∀(i:Nat)(v:Value),cs[i]? =some v->∃u,cs'[i]? =some u/\wo v u)(a n:Nat):CO ((cs.toList.drop a).take n) ((cs'.toList.drop a).take n):=by
 refine⟨by simp[hs],λi v hv=>?_⟩;rw[Zu]at hv ⊢;split at hv
 · rename_i hi
   rw[if_pos hi];rw[ZB,Array.getElem?_toList]at hv ⊢;exact h _ v hv
 .cases hv
mutual
theorem jF.soft{P S:Nat->Prop}{W w:World}(s:bK P W w):∀(c:CT)(v u:Value)(x:c.den),wo v u->jF W.heap S c v x->jF w.heap S c u x
 |.int k,v,u,(n:Int),hs,H=>by rw[jF]at H ⊢;exact hs.qg H
 |.bool,v,u,(b:Bool),hs,H=>by rw[jF]at H ⊢;exact hs.qg H
 |.str,v,u,(_:Bytes),hs,H=>by rw[jF]at H ⊢;exact hs.qg H
 |.sl _ r,v,u,(l:List r.den),hs,H=>by
  rw[jF]at H ⊢;rcases H with⟨h,a,c,rfl⟩|⟨b,off,cap,cs,t,fz,rfl,h2,h3,h4,h5,h6⟩
  .exact .inl ⟨h,a,c,hs.slice⟩
  .obtain⟨cs',k1,k2,k3⟩:=s.cells b cs t fz h4;exact .inr ⟨b,off,cap,cs',t,fz,hs.slice,h2,h3,k1,λk hk=>h5 k (k2▸hk),λi x hx=>ShR.soft s r _ _ x (CO.sub k2 k3 _ _) (h6 i x hx)⟩
theorem ShR.soft{P S:Nat->Prop}{W w:World}(s:bK P W w):∀(r:aj)(vs us:List Value)(x:r.den),CO vs us->ShR W.heap S r vs x->ShR w.heap S r us x
 |.nil,vs,us,_,hs,H=>by
  rw[ShR]at H ⊢;subst H;exact ZN.1 hs.1.symm
 |.cons c r,vs,us,(x,y),hs,H=>by rw[ShR]at H ⊢;obtain⟨v,vs',rfl,h1,h2⟩:=H;obtain⟨u,PK,rfl,k1,k2⟩:=hs.cons;exact⟨u,PK,rfl,jF.soft s c v u x k1 h1,ShR.soft s r vs' PK y k2 h2⟩
end
theorem jF.keep{P S:Nat->Prop}{W w:World}{c:CT}{v:Value}{x:c.den}(h:jF W.heap S c v x)(s:bK P W w):jF w.heap S c v x:=h.soft s c v v x (.inl rfl)
theorem jF.form{h:Array Obj}{S:Nat->Prop}{e:TypeId}{r:aj}{v:Value}{l:List r.den}(H:jF h S (.sl e r) v l):∃a c,v=.slice a l.length c:=by rw[jF]at H;rcases H with⟨rfl,a,c,rfl⟩|⟨b,off,cap,cs,t,fz,rfl,_⟩<;>exact⟨_,_,rfl⟩
theorem tK{cs:Array Value}{a n:Nat}{vs:List Value}(h:(cs.toList.drop a).take n=vs){k:Nat}{v:Value}(hv:vs[k]? =some v):cs[a+k]? =some v:=by
 rw[← h,Zu]at hv;split at hv
 .rw[ZB,Array.getElem?_toList]at hv;exact hv
 .cases hv
def cnt{α:Type}(f:α->Nat):List α->Nat
 |[]=>0
 |x::l=>f x+cnt f l
theorem xB{α:Type}(f:α->Nat):∀(a b:List α),cnt f (a++b)=cnt f a+cnt f b
 |[],b=>by show _=0+_;rw[ZC];rfl
 |p::r,b=>by show f p+cnt f (r++b)=f p+cnt f r+cnt f b;rw[xB f r b];omega
theorem QG{α:Type}(f:α->Nat){l:List α}{m:Nat}{x:α}(h:l[m]? =some x):cnt f (l.take (m+1))=cnt f (l.take m)+f x/\cnt f (l.take m)+f x<=cnt f l:=by
 obtain⟨hl,e⟩:=Y8.1 h;have e1:l.take (m+1)=l.take m++[x]:=by rw[Zy hl,e]
 have e2:cnt f [x]=f x:=rfl;have e3:cnt f l=cnt f (l.take (m+1))+cnt f (l.drop (m+1)):=by rw[← xB,List.take_append_drop]
 rw[e1,xB,e2]at e3 ⊢;omega
def Rg(w:World)(lo hi b:Nat):Prop:=lo<=b/\b<hi/\GR w b
abbrev New(w w':World):Nat->Prop:=Rg w' w.heap.size w'.heap.size
inductive cO where
 |box (b:Nat) (o:Obj)
 |tree (lo hi:Nat) (c:CT) (v:Value) (x:c.den)
def cO.ok(w:World):cO->Prop
 |.box b o=>w.heap[b]? =some o
 |.tree lo hi c v x=>hi<=w.heap.size/\aU w.heap (Rg w lo hi) c v x
def cO.apart(P:Nat->Prop):cO->Prop
 |.box b _=>¬P b
 |.tree lo hi _ _ _=>∀b,P b->¬(lo<=b/\b<hi)
def Mem(w:World):List cO->Prop
 |[]=>True
 |e::l=>e.ok w/\Mem w l
def J4(P:Nat->Prop):List cO->Prop
 |[]=>True
 |e::l=>e.apart P/\J4 P l
theorem Mem.soft{P:Nat->Prop}{w w':World}(s:bK P w w'):∀{l:List cO},Mem w l->J4 P l->Mem w' l
 |[],_,_=>trivial
 |.box b o::l,⟨h1,h2⟩,⟨k1,k2⟩=>⟨(s.block b (Zd.1 h1).1 k1).trans h1,Mem.soft s h2 k2⟩
 |.tree lo hi c v x::l,⟨⟨h0,h1⟩,h2⟩,⟨k1,k2⟩=>⟨⟨Y9 h0 s.size,aU.mono (λb hb=>have e:=s.block b (Zc hb.2.1 h0) λhp=>k1 b hp ⟨hb.1,hb.2.1⟩
    ⟨⟨hb.1,hb.2.1,hb.2.2.keep e⟩,e⟩) c v x h1⟩,Mem.soft s h2 k2⟩
theorem vF:∀(l:List cO),J4 (λ_=>False) l
 |[]=>trivial
 |.box _ _::l=>⟨λh=>h,vF l⟩
 |.tree _ _ _ _ _::l=>⟨λ_ h=>h.elim,vF l⟩
theorem Mem.below{w w':World}(s:Below w.heap.size w w'){l:List cO}(h:Mem w l):Mem w' l:=h.soft (P:=λ_=>False) (bK.of s) (vF l)
theorem cO.new{w w':World}{c:CT}{v:Value}{x:c.den}(h:aU w'.heap (New w w') c v x):cO.ok w' (.tree w.heap.size w'.heap.size c v x):=⟨Zg _,h⟩
theorem cO.lt{w:World}{lo hi:Nat}{c:CT}{v:Value}{x:c.den}(h:cO.ok w (.tree lo hi c v x)):aU w.heap (λb=>b<w.heap.size) c v x:=
 aU.mono (λ_ hb=>⟨Zc hb.2.1 h.1,rfl⟩) c v x h.2
theorem cO.shape{w:World}{lo hi:Nat}{c:CT}{v:Value}{x:c.den}(h:cO.ok w (.tree lo hi c v x)):jF w.heap (Rg w lo hi) c v x:=jF.of (λ_ hb=>hb.2.2) c v x h.2
theorem J5{P:Nat->Prop}{B:Nat}{W w w':World}(h:Below B W w)(s:bK P w w')(hB:B<=w.heap.size)(hP:∀b,P b->B<=b):Below B W w':=
 ⟨s.os.trans h.os,s.tape.trans h.tape,s.output.trans h.output,Y9 h.size s.size,λb hb=>(s.block b (Zc hb hB) λhp=>aaz.2 (hP b hp) hb).trans (h.block b hb)⟩
inductive Tok:Nat->Prop where
 |mk (n:Nat):Tok n
end Go.Fw
namespace Go.Fw
open Go
variable {P:Program} {H:Type} {enc:TypeId×Value->H} {w:World}
def aj.app:aj->aj->aj
 |.nil,s=>s
 |.cons c r,s=>.cons c (r.app s)
def NU:(r s:aj)->r.den->s.den->(r.app s).den
 |.nil,_,_,y=>y
 |.cons _ r,s,x,y=>(x.1,NU r s x.2 y)
theorem aC.app{h:Array Obj}{S:Nat->Prop}:∀(r s:aj)(x:r.den)(y:s.den)(vs us:List Value),aC h S r vs x->aC h S s us y->aC h S (r.app s) (vs++us) (NU r s x y)
 |.nil,s,x,y,vs,us,h1,h2=>by subst h1;exact h2
 |.cons c r,s,(x,x'),y,vs,us,h1,h2=>by obtain⟨v,vs',rfl,g1,g2⟩:=h1;exact⟨v,vs'++us,rfl,g1,aC.app r s x' y vs' us g2 h2⟩
theorem add_add(a:Addr)(h:a.spot=none)(m j:Nat):(a.add m).add j=⟨a.block,a.off+m+j,none⟩:=by
 obtain⟨b,o,sp⟩:=a
 grind [Addr.add]
def uN(f:TypeId->Option aj):List Field->Nat->Option aj
 |[],_=>some .nil
 |x::r,off=>match f x.type with
  |some s=>match uN f r (off+s.len),Nat.beq x.offset off with
   |some u,true=>some (s.app u)
   |_,_=>none
  |none=>none
def rowOf(P:Program):Nat->TypeId->Option aj
 |0,_=>none
 |n+1,t=>match P.underlying t with
  |some (.int k)=>some (.cons (.int k) .nil)
  |some .bool=>some (.cons .bool .nil)
  |some .string=>some (.cons .str .nil)
  |some (.slice e)=>match rowOf P n e with
   |some s=>match Nat.beq s.len (P.cellsOf e)&&Nat.ble 1 s.len with
    |true=>some (.cons (.sl e s) .nil)
    |false=>none
   |none=>none
  |some (.struct fs)=>match uN (rowOf P n) fs.toList 0 with
   |some r=>match Nat.beq r.len (P.cellsOf t)with
    |true=>match fs.toList.all λf=>match rowOf P n f.type with|some s=>Nat.beq s.len (P.cellsOf f.type)|none=>false with
     |true=>some r
     |false=>none
    |false=>none
   |none=>none
  |_=>none
theorem MH{α:Type}{Q:Nat->α->Prop}:∀(n:Nat),(∀i,i<n->∃x,Q i x)->∃l:List α,l.length=n/\∀i x,l[i]? =some x->Q i x
 |0,_=>⟨[],rfl,λi x h=>by simp at h⟩
 |n+1,h=>by
  obtain⟨l,hl,hq⟩:=MH n λi hi=>h i (by omega);obtain⟨x,hx⟩:=h n (by omega);refine⟨l++[x],by simp[hl],λi y hy=>?_⟩
  grind
theorem MI:∀(r s:aj),(r.app s).len=r.len+s.len
 |.nil,s=>by simp[aj.app,aj.len]
 |.cons c r,s=>by simp only[aj.app,aj.len,MI r s];omega
theorem Ei{f:TypeId->Option aj}{S:Nat->Prop}{h:Array Obj}(cs:List Value)
 (part:∀(t:TypeId)(r:aj)(off:Nat),f t=some r->(∃g:Field,g.type=t/\g.offset=off)->True):∀(fs:List Field)(off:Nat)(r:aj),uN f fs off=some r->
 (∀g∈fs,∀s,f g.type=some s->∃x,aC h S s ((cs.drop g.offset).take s.len) x)->
 ∃x,aC h S r ((cs.drop off).take r.len) x
 |[],off,r,hr,_=>by
  cases hr
  simp_all [aC,aj.len]
 |g::fs,off,r,hr,hall=>by
  rw[uN]at hr;split at hr
  .next s hs=>
   split at hr
   .next u hu hb=>
    cases hr;obtain⟨x,hx⟩:=hall g Y6 s hs;rw[YX hb]at hx;obtain⟨y,hy⟩:=Ei cs part fs (off+s.len) u hu λg' hg'=>hall g' (Y5 _ hg');refine⟨NU s u x y,?_⟩
    grind [aC.app,MI,List.drop_drop]
   .cases hr
  .cases hr
theorem CP:∀(n:Nat)(t:TypeId)(r:aj),rowOf P n t=some r->∀(m:Nat)(base:Nat)(spare:Nat->Bool)(held:Bool)(cs:List Value)(x:DataW H×List MemPlace),
 DataW.trod enc P w base spare held m t cs=some x->∃y,aC w.heap (λb=>b<w.heap.size) r cs y
 |0,t,r,hr=>by cases hr
 |n+1,t,r,hr=>by
  intro m base spare held cs x hx;rw[rowOf]at hr;split at hr
  .next k hu=>
   cases hr;obtain⟨i,rfl,_,hwf⟩:=DataW.trod_int hu hx
   simp_all [Lit.wf,aC,aU]
  .next hu=>
   cases hr;obtain⟨b,rfl,_⟩:=DataW.trod_bool hu hx
   simp_all [aC,aU]
  .next hu=>cases hr;obtain⟨s,rfl,_,hs⟩:=DataW.trod_string hu hx;refine⟨(s.data.toList,()),by simp_all [aC,aU]⟩
  .next e hu=>
   split at hr
   .next s hs=>
    split at hr
    .next hb=>
     cases hr;rw[YZ]at hb;have hlen:=YX hb.1;have hpos:1<=s.len:=by simp_all
     rcases DataW.trod_slice hu hx with⟨rfl,_⟩|⟨a,len,cap,elems,rest,k,_,rfl,_,hbase,hle,hmax,hel,hrow,_,_⟩
     .exact⟨([],()),by rw[aC];exact⟨_,[],rfl,by rw[aU];exact⟨by simp,.inl ⟨rfl,none,0,rfl⟩⟩,by rw[aC]⟩⟩
     .by_cases h0:len=0
      .subst h0;exact⟨([],()),by rw[aC];exact⟨_,[],rfl,by rw[aU];exact⟨by simp,.inl ⟨rfl,some a,cap,rfl⟩⟩,by rw[aC]⟩⟩
      .have each:∀i,i<len->∃(ys:List Value)(z:s.den),w.cells? base (a.add (i*P.cellsOf e)) (P.cellsOf e)=some ys/\aC w.heap (λb=>b<w.heap.size) s ys z:=by
        intro i hi;have h1:=hrow i hi;rw[Zf (by omega)]at h1;obtain⟨ys,hys,hy2⟩:=aag.1 h1;obtain⟨z,hz⟩:=CP n e s hs k base spare held ys _ hy2
        grind
       obtain⟨ys0,z0,hc0,hz0⟩:=each 0 (by omega);obtain⟨_,hl0,hcell0⟩:=World.cells?_some hc0;have CQ:=hcell0 0 (by omega);simp only[Nat.zero_mul,Addr.add,if_true]at CQ;have Xb:∃v,ys0[0]? =some v:=⟨ys0[0]'(by omega),by grind⟩;obtain⟨v0,hv0⟩:=Xb;rw[hv0]at CQ;unfold World.cell? at CQ;split at CQ
       .next c ty fz hblk=>
        split at CQ
        .cases CQ
        .next hsp=>
         have hspot:a.spot=none:=by simp_all
         have ha:a=⟨a.block,a.off,none⟩:=by cases a;grind
         have hb':a.block<w.heap.size:=by
          grind
         have rows:∀i,i<len->∃z:s.den,aC w.heap (λb=>b<w.heap.size) s ((c.toList.drop (a.off+i*s.len)).take s.len) z:=by
          intro i hi;obtain⟨ys,z,hcs,hz⟩:=each i hi;obtain⟨_,hl,hcell⟩:=World.cells?_some hcs;refine⟨z,?_⟩;have:(c.toList.drop (a.off+i*s.len)).take s.len=ys:=by
           refine ZL λj=>?_
           grind [add_add,World.cell?]
          grind
         obtain⟨l,hll,hlq⟩:=MH len rows;refine⟨(l,()),by rw[aC];exact⟨_,[],rfl,by rw[aU];exact⟨by omega,.inr ⟨a.block,a.off,cap,c,ty,fz,by grind,by omega,hb',hblk,hlq⟩⟩,by rw[aC]⟩⟩
       .cases CQ
    .cases hr
   .cases hr
  .next fs hu=>
   split at hr
   .next r' hf=>
    split at hr
    .next hb=>
     split at hr
     .next hall=>
      cases hr;obtain⟨xs,k,_,_,hcl,hxl,hparts⟩:=DataW.trod_struct hu hx;have hlen:=YX hb;have:=Ei (h:=w.heap) (S:=λb=>b<w.heap.size) cs (λ_ _ _ _ _=>trivial) fs.toList 0 _ hf ?_
      · grind
      .intro g hg s hs;have hg2:=Ze.1 hall g hg;rw[hs]at hg2;have hsl:=YX hg2;obtain⟨i,hi,hgi⟩:=aan.1 hg;have hp:=hparts i g (by grind);rw[Zf (by grind)]at hp;rw[hsl];exact CP n g.type s hs k base spare held _ _ hp
     .cases hr
    .cases hr
   .cases hr
  .cases hr
def CT.UJ:CT->aY
 |.int k=>.int k
 |.bool=>.bool
 |.str=>.str
 |.sl e r=>.sl e r false
def toC:(c:CT)->c.den->c.UJ.den
 |.int _,x=>x
 |.bool,x=>x
 |.str,x=>x
 |.sl _ _,x=>x
def aj.SS:aj->List aY
 |.nil=>[]
 |.cons c r=>c.UJ::r.SS
def toCs:(r:aj)->r.den->dJ r.SS
 |.nil,_=>()
 |.cons c r,x=>(toC c x.1,toCs r x.2)
theorem Gj(X:V):∀(r:aj)(vs:List Value)(x:r.den),aC X.w.heap (X.aH false) r vs x->ah X (bD r.SS (toCs r x)) vs
 |.nil,vs,x,h=>by subst h;trivial
 |.cons c r,vs,(x,y),h=>by
  obtain⟨v,vs',rfl,h1,h2⟩:=h;refine⟨?_,Gj X r vs' y h2⟩;cases c with
  |int k=>exact h1
  |bool=>exact h1
  |str=>exact h1
  |sl e r=>exact h1
def NV(P:Program)(t:TypeId):Option gq:=
 match rowOf P 64 t with
 |some r=>match P.underlying t with
  |some (.struct _)=>some (.agg r.SS)
  |some (.array _ _)=>none
  |_=>match r with
   |.cons c .nil=>some (.one c.UJ)
   |_=>none
 |none=>none
def tN(P:Program):List TypeId->Option (List bP)
 |[]=>some []
 |t::ts=>match NV P t,tN P ts with
  |some s,some l=>some (.v s::l)
  |_,_=>none
def start(w:World):V:=⟨w,w.heap.size,λb=>b<w.heap.size,λ_=>undef,λ_=>none⟩
theorem TS{t:TypeId}{s:gq}(hs:NV P t=some s){base base':Nat}{sp:Nat->Bool}{hd:Bool}{v:Value}{d:DataW H}{p:List MemPlace}
 (ht:DataW.Trod enc P w base sp hd t v d p) (hv:Value.okWide P w .any base' t v):∃x:s.den,aP (start w) (s.val x) v:=by
 unfold NV at hs;split at hs
 .next r hr=>
  obtain⟨m,hm⟩:=ht;obtain⟨y,hy⟩:=CP 64 t r hr m base sp hd _ _ hm;have hy':aC (start w).w.heap ((start w).aH false) r v.cells.toList y:=
   aC.mono (λb hb=>⟨⟨⟨hb,λ_=>hb,λo x hx=>by cases hx⟩,λe=>by cases e⟩,rfl⟩) r _ y hy
  unfold Value.okWide at hv;split at hs
  .next fs hu=>cases hs;rw[hu]at hv;obtain⟨cs,rfl,_,_⟩:=hv;exact⟨toCs r y,cs,rfl,Gj (start w) r _ y hy'⟩
  .cases hs
  .next hns hna=>
   split at hs
   .next c=>
    cases hs;have hcell:v.cells=#[v]:=by
     cases hv2:v<;>first
      |rfl
      |(exfalso
        rw[hv2]at hv;split at hv
        · grind
        · grind
        .unfold Go.Cell.okWide at hv;split at hv<;>first|(done)|(rename_i h2;cases h2;done)|skip;unfold Go.Cell.ok at hv;split at hv<;>first|(rename_i h1 h2;cases h2;done)|exact hv)
    have:=Gj (start w) _ _ y hy';rw[hcell]at this;exact⟨toC c y.1,this.1⟩
   .cases hs
 .cases hs
theorem J6:∀(ts:List TypeId)(sh:List bP),tN P ts=some sh->∀{base base':Nat}{sp:Nat->Bool}{hd:Bool}(vs:List Value)(ds:List (DataW H))(p:List MemPlace),
 DataW.TrodAll enc P w base sp hd ts vs ds p->(∀(j:Nat) t v,ts[j]? =some t->vs[j]? =some v->Value.okWide P w .any base' t v)->∃x:iy sh,eG (start w) (jk sh x) vs
 |[],sh,hs,_,_,_,_,vs,ds,p,h,_=>by
  cases hs;cases vs with
  |nil=>exact⟨(),trivial⟩
  |cons v vs=>cases ds<;>simp[DataW.TrodAll]at h
 |t::ts,sh,hs,base,base',sp,hd,vs,ds,p,h,hok=>by
  rw[tN]at hs;split at hs
  .next s l h1 h2=>
   cases hs;cases vs with
   |nil=>cases ds<;>simp[DataW.TrodAll]at h
   |cons v vs=>
    cases ds with
    |nil=>simp[DataW.TrodAll]at h
    |cons d ds=>obtain⟨a,b,g1,g2,_⟩:=h;obtain⟨x,hx⟩:=TS h1 g1 (hok 0 t v rfl rfl);obtain⟨y,hy⟩:=J6 ts l h2 vs ds b g2 λj t' v' ht' hv'=>hok (j+1) t' v' (by simpa using ht') (by simpa using hv');exact⟨(x,y),hx,hy⟩
  .cases hs
mutual
theorem CT.tV:∀(c:CT),c.beq c=true
 |.int k=>by simp[CT.beq]
 |.bool=>rfl
 |.str=>rfl
 |.sl e r=>by simp[CT.beq,aj.tV r]
theorem aj.tV:∀(r:aj),r.beq r=true
 |.nil=>rfl
 |.cons c r=>by simp[aj.beq,CT.tV c,aj.tV r]
end
theorem Hy:∀(c:aY)(x:c.den),c.read (c.cell x)=some x
 |.int k,x=>by simp[aY.cell,aY.read]
 |.bool,x=>rfl
 |.str,x=>rfl
 |.sl e r fr,l=>by
  simp only[aY.cell,aY.read,ZH];have h1:tq fr fr=true:=by cases fr<;>rfl
  have h2:r.beq r=true:=aj.tV r;rw[h1];rw[dif_pos h2];rfl
 |.nil,x=>rfl
 |.ref o,x=>by simp[aY.cell,aY.read]
 |.junk,x=>rfl
theorem Ej:∀(l:List aY)(x:dJ l),bY l (bD l x)=some x
 |[],_=>rfl
 |c::r,x=>by rw[bD,bY,Hy c x.1,Ej r x.2]
theorem J7:∀(ts:List TypeId)(l:List bP),tN P ts=some l->∀(x:iy l),pq l (jk l x)=some x
 |[],l,h,x=>by cases h;rfl
 |t::ts,l,h,x=>by
  rw[tN]at h;split at h
  .next s r h1 h2=>
   cases h;have ih:=J7 ts r h2 x.2;cases s with
   |one c=>
    have e:(bP.v (.one c)).read ((bP.v (.one c)).val x.1)=some x.1:=Hy c x.1;rw[jk,pq,ih,e]
   |agg l=>have e:(bP.v (.agg l)).read ((bP.v (.agg l)).val x.1)=some x.1:=Ej l x.1;rw[jk,pq,ih,e]
  .cases h
def Gl:Out:=⟨[(false,[.plain (.bool true)])],none⟩
theorem PL{G:cu}{f:FuncId}{fn:Func}{sh:List bP}{F:iy sh->Prop×Out}(hcon:jr P G f (rM sh F))(hsh:tN P fn.params.toList=some sh)
 (hF:∀x,xu sh x->(F x).1/\(F x).2=Gl) (hG:G.ok w) {base base':Nat} {sp:Nat->Bool} {hd:Bool} {args:Array Value} {ds:List (DataW H)} {p:List MemPlace}
 (hA:DataW.TrodAll enc P w base sp hd fn.params.toList args.toList ds p) (hok:∀(j:Nat) t v,fn.params[j]? =some t->args[j]? =some v->Value.okWide P w .any base' t v):
 Calls P f args w λe w'=>e=.returned (.bool true)/\w'.os=w.os/\w'.output=w.output/\w.heap.size<=w'.heap.size/\∀b,b<w.heap.size->w'.heap[b]? =w.heap[b]? :=by
 obtain⟨x,hx⟩:=J6 _ _ hsh _ _ _ hA λj t v ht hv=>hok j t v (by simpa using ht) (by simpa using hv);have hin:=l7 sh x _ hx;obtain⟨hp,ho⟩:=hF x hin;have hc:rM sh F (jk sh x)=some ((F x).1,Gl):=by
  grind [rM,J7]
 refine(hcon (jk sh x) _ _ 0 _ args w hc hp hG hx).mono ?_;rintro e w' ⟨v,vals,rfl,h1,h2,h3,h4,h5,h6,_,_⟩;have hv:v=.bool true:=h6
 grind
theorem QI{w w':World}(h1:w'.os=w.os)(h3:w'.output=w.output)(h5:∀b,b<w.heap.size->w'.heap[b]? =w.heap[b]?)(may:MemPlace->Prop):w.keptBut w' may:=by
 refine⟨h1,h3,λi hi=>?_⟩
 grind
theorem QJ{w w':World}(h5:∀b,b<w.heap.size->w'.heap[b]? =w.heap[b]?){p:MemPlace}(hp:p.block<w.heap.size):w.sameAt w' p:=by
 cases p with
 |cell b off=>
  show w'.cell? _=w.cell? _;unfold World.cell?;rw[h5 b hp]
 |map b=>exact h5 b hp
theorem yg(hl:laidOutB P=true){base:Nat}{sp':Nat->Bool}{W W':World}:∀(ts:List TypeId)(_:ts.all (λt=>P.readableRec t&&decide (t<P.types.size))=true)
 (vs:List Value) (ds:List (DataW H)) (ps:List MemPlace),DataW.TrodAll enc P W base (λ_=>true) true ts vs ds ps->(∀p∈ps,W.sameAt W' p)->(∀p∈ps,sp' p.block=true)->DataW.TrodAll enc P W' base sp' true ts vs ds ps
 |[],_,vs,ds,ps,h,_,_=>by
  cases vs<;>cases ds<;>simp[DataW.TrodAll]at h ⊢;exact h
 |t::ts,ht,vs,ds,ps,h,h1,h2=>by
  rw[ZQ,YZ,YZ]at ht;cases vs with
  |nil=>cases ds<;>simp[DataW.TrodAll]at h
  |cons v vs=>
   cases ds with
   |nil=>simp[DataW.TrodAll]at h
   |cons d ds=>
    obtain⟨a,b,g1,g2,rfl⟩:=h;exact⟨a,b,WideElems.Trod_stays hl ht.1.1 (ZK ht.1.2) g1 (λp hp=>h1 p (Zv _ hp)) (λp hp=>h2 p (Zv _ hp)),
     yg hl ts ht.2 vs ds b g2 (λp hp=>h1 p (ZP _ hp)) (λp hp=>h2 p (ZP _ hp)),rfl⟩
theorem trodAll_length{base:Nat}{sp:Nat->Bool}{hd:Bool}{W:World}:∀(ts:List TypeId)(vs:List Value)(ds:List (DataW H))(ps:List MemPlace),DataW.TrodAll enc P W base sp hd ts vs ds ps->ds.length=ts.length
 |[],vs,ds,ps,h=>by cases vs<;>cases ds<;>simp[DataW.TrodAll]at h ⊢
 |t::ts,vs,ds,ps,h=>by
  cases vs with
  |nil=>cases ds<;>simp[DataW.TrodAll]at h
  |cons v vs=>
   cases ds with
   |nil=>simp[DataW.TrodAll]at h
   |cons d ds=>obtain⟨a,b,g1,g2,rfl⟩:=h;simp[trodAll_length ts vs ds b g2]
theorem QK{fn:Func}{s:ChangeSpec}{apart fresh handsOn again:Bool}{W W':World}{args:Array Value}{ds gs:List (DataW H)}{before:List MemPlace}{tb:TypeId}
 (hvars:s.vars=[]) (hspec:∀l:List (DataW H),l.length=fn.params.toList.length->(s.fn H l).results=[.lit (.bool true)]/\(s.fn H l).args=l/\(s.fn H l).vars=[])
 (hres:fn.resultTypes=#[tb]) (hb:P.underlying tb=some .bool) (hl:laidOutB P=true) (hread:fn.params.toList.all (λt=>P.readableRec t&&decide (t<P.types.size))=true)
 (hW:DataW.Whole enc P fn.params.toList s.vars apart W args.toList ds gs before) (hos:W'.os=W.os) (hout:W'.output=W.output) (hheap:∀b,b<W.heap.size->W'.heap[b]? =W.heap[b]?):
 s.post enc P fn apart fresh handsOn again W args (.bool true) W':=by
 have hlt:=hW.lt;have hW0:=hW;obtain⟨p,q,hA,hV,hpq,hz,hn⟩:=hW;have hg:gs=[]/\q=[]:=by
  grind [DataW.TrodVars]
 obtain⟨rfl,rfl⟩:=hg;rw[ZJ]at hpq;subst hpq;have hlen:=trodAll_length _ _ _ _ hA;obtain⟨r1,r2,r3⟩:=hspec (ds++[]) (by grind);rw[ZJ]at r1 r2 r3;have hsame:∀x∈before,W.sameAt W' x:=λx hx=>QJ hheap (hlt x hx);have R:∀(b:Nat)(sp:Nat->Bool)(hd:Bool),DataW.TrodAll enc P W' b sp hd fn.resultTypes.toList ((Value.bool true).resultList fn.resultTypes.size) [.lit (.bool true)] []:=by intro b sp hd;rw[hres];exact⟨[],[],⟨1,by simp[DataW.trod,Value.cells,hb]⟩,rfl,rfl⟩
 have A:∀sp:Nat->Bool,(∀x∈before,sp x.block=true)->DataW.TrodAll enc P W' 0 sp true fn.params.toList args.toList ds before:=λsp hsp=>yg hl _ hread _ _ _ hA hsame hsp;refine⟨ds,[],before,[],before,[],hW0,?_,?_,?_,QI hos hout hheap _,λ_=>⟨?_,.lit (.bool true)::ds,[],before,⟨before,[],?_,?_,by simp,?_,hn⟩,λx hx _=>hx⟩⟩
 · grind
 · grind
 .rw[ZJ,r3,hvars];rfl
 .intro j t r h1 h2;rw[hres]at h1 h2
  match j with
  |0=>
   simp[Value.resultList]at h1 h2;subst h1 h2;simp[Value.okWide,hb,Go.Cell.okWide,Go.Cell.ok]
  |j+1=>simp at h1
 .exact ChangeShapes.trodAll_append (A _ (λ_ _=>rfl)) (R _ _ _)
 .rw[hvars];rfl
 .intro b off hp;have hbl:=hlt _ hp;have e:W'.frozen? ⟨b,off,none⟩=W.frozen? ⟨b,off,none⟩:=by unfold World.frozen?;rw[hheap b hbl]
  rw[e];exact hz b off hp
end Go.Fw
namespace Go.Fw
open Go
theorem Em{H:Type}{enc:TypeId×Value->H}{C:Checked}{G:cu}{os:Os}{f:FuncId}{fn:Func}{s:ChangeSpec}{conds:List PathCond}{apart fresh handsOn again:Bool}{tb:TypeId}{sh:List bP}{F:iy sh->Prop×Out}
 {X:World->Prop} (hX:∀w w':World,w.heap=w'.heap->X w->X w')
 (own:ownKnob C.prog.godebug=none) (started:os.Started) (noInit:C.prog.inits.idxOf? f=none) (hfn:C.prog.funcs[f]? =some fn)
 (witness:∃(w:World)(tape:Tape)(i:Input),w.os=os/\(w.forCall tape i).Shaped C.prog/\i.vars=[]/\Input.okWide C.prog (w.forCall tape i) .any w.heap.size f i/\
   ((s.pre enc C.prog fn conds apart (w.forCall tape i).memory i.args/\X (w.forCall tape i).memory)/\sizedMet enc C.prog fn (OpenSpec.ofChange s) apart (w.forCall tape i).memory i.args)/\({}:Assume).holds C.prog (lone (Frame.enter C.prog f i.args .normal) [] (w.forCall tape i)))
 (hcon:jr C.prog G f (rM sh F)) (hsh:tN C.prog fn.params.toList=some sh) (hF:∀x,xu sh x->(F x).1/\(F x).2=Gl) (hG:∀w,X w->G.ok w)
 (hvars:s.vars=[]) (hspec:∀l:List (DataW H),l.length=fn.params.toList.length->(s.fn H l).results=[.lit (.bool true)]/\(s.fn H l).args=l/\(s.fn H l).vars=[])
 (hres:fn.resultTypes=#[tb]) (hb:C.prog.underlying tb=some .bool) (hl:laidOutB C.prog=true) (hread:fn.params.toList.all (λt=>C.prog.readableRec t&&decide (t<C.prog.types.size))=true):
 ReturnsInHanded {} C os f .any (λw args=>(s.pre enc C.prog fn conds apart w args/\X w)/\sizedMet enc C.prog fn (OpenSpec.ofChange s) apart w args) (s.post enc C.prog fn apart fresh handsOn again):=by
 refine returnsInHanded_of_change_and (X:=λw _=>X w) (λw w' _ h hx=>hX w w' h hx) own started noInit hfn witness ?_;intro W base args ds gs before hval hW _ _ hx _;have hW0:=hW;obtain⟨p,q,hA,_⟩:=hW;refine(PL hcon hsh hF (hG W hx) hA hval).mono ?_
 grind [QK]
end Go.Fw
