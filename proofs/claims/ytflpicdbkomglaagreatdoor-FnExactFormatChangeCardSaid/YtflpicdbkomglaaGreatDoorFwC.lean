import Derived.Test.YtflpicdbkomglaaGreatDoorFwD
import Derived.Test.YtflpicdbkomglaaGreatDoorFwB
import Derived.Test.YtflpicdbkomglaaGreatDoorFwA
import Derived.ChangeArms
import Derived.WideKeyArgs
import Derived.ChangeSame
import Derived.ChangeOld
import Derived.Handed
import Derived.IntWalk
import Derived.ProofKit
namespace Go.Fw
open Go
variable {P:Program} {w0:World} {M:Nat->Prop} {T:Ext} {γ γ':Nat->Value} {st:St} {a:Act} {w w':World} {Θ:dZ} {Γ:gG}
structure zQ where
 ZL:List KJ
 c:Shape
 v:Shape
structure Hints where
 own:Nat->Bool
 loops:Nat->Option zQ
 cuts:Nat->Option zQ
 upd:List Nat
 frz:Nat->List Pre
def pG:Code->Option Nat
 |.region id _ _=>some id
 |.seq x y=>match pG x with|some n=>some n|none=>pG y
 |.cond _ x y=>match pG x with|some n=>some n|none=>pG y
 |.block _ x|.loop x=>pG x
 |_=>none
def cutAt(H:Hints)(y:Code):Option zQ:=match pG y with
 |some n=>H.cuts n
 |none=>none
def yQ(Θ:dZ)(Γ:gG)(H:Hints):Code->(Exit->St->Prop)->St->Prop
 |.skip,Q,st=>Q .normal st
 |.region id ops false,Q,st=>Ik (H.frz id) (runs Θ Γ H.own ops.toList (Q .normal) ops.toList) st
 |.region id ops true,Q,st=>Ik (H.frz id) (Ez Θ Γ H.own H.upd ops.toList (Q .normal)) st
 |.seq x y,Q,st=>match cutAt H y with
  |none=>yQ Θ Γ H x (λe s=>match e with|.normal=>yQ Θ Γ H y Q s|e=>Q e s) st
  |some sp=>match sp.c.read (only sp.c sp.v st)with
   |some x0=>∃(J:sp.v.den->Prop),yQ Θ Γ H x (λe s=>match e with
     |.normal=>match settles s sp.ZL with
      |some s1=>match Nat.beq s1.n st.n,sp.c.read (only sp.c sp.v s1),sp.v.read (only sp.c sp.v s1)with
       |true,some x1,some y1=>x1=x0/\J y1
       |_,_,_=>False
      |none=>False
     |e=>Q e s) st/\∀y1,J y1->yQ Θ Γ H y Q (joint st.n sp.c sp.v x0 y1)
   |none=>False
 |.cond c x y,Q,st=>match st.ev c with
  |.sv (.one (.bool b))=>cond b (yQ Θ Γ H x Q st) (yQ Θ Γ H y Q st)
  |_=>False
 |.block id c,Q,st=>yQ Θ Γ H c (λe s=>match e with
  |.exit i=>match Nat.beq i id with|true=>Q .normal s|false=>Q (.exit i) s
  |e=>Q e s) st
 |.exit id,Q,st=>Q (.exit id) st
 |.ret,Q,st=>Q .ret st
 |.loop c,Q,st=>match pG c with
  |some n=>match H.loops n with
   |some sp=>match settles st sp.ZL with
    |some s0=>match sp.c.read (only sp.c sp.v s0),sp.v.read (only sp.c sp.v s0)with
     |some x0,some y0=>∃(I:sp.v.den->Prop)(μ:sp.v.den->Nat),I y0/\∀y,I y->
       yQ Θ Γ H c (λe s=>match e with
        |.normal=>match settles s sp.ZL with
         |some s1=>match Nat.beq s1.n s0.n,sp.c.read (only sp.c sp.v s1),sp.v.read (only sp.c sp.v s1)with
          |true,some x1,some y1=>x1=x0/\I y1/\μ y1<μ y
          |_,_,_=>False
         |none=>False
        |e=>Q e s) (joint s0.n sp.c sp.v x0 y)
     |_,_=>False
    |none=>False
   |none=>False
  |none=>False
 |_,_,_=>False
theorem KL{G:fG}(hE:lI P G Θ Γ w0 M)(hm:P.follows .mixedOrders=true)(H:Hints):∀(c:Code)(QA:Exit->St->Prop)(Q:Exit->Act->World->Prop)(st:St)(γ:Nat->Value)(a:Act)(w:World),
 Rel w0 M T γ st a w->yQ Θ Γ H c QA st->(∀e s γ' a' w',QA e s->Rel w0 M T γ' s a' w'->Q e a' w')->c.wp P Q a w:=by
 intro c
 induction c with
 |skip=>intro QA Q st γ a w h ha hQ;exact wp_skip (hQ _ _ _ _ _ ha h)
 |region id ops d=>
  intro QA Q st γ a w h ha hQ;cases d with
  |false=>
   obtain⟨s0,γ0,h0,hk0⟩:=uZ (K:=runs Θ Γ H.own ops.toList (QA .normal) ops.toList) (H.frz id) st γ h ha;exact WY hE h0 hk0 λs γ' a' w' hK hR=>hQ _ _ _ _ _ hK hR
  |true=>
   obtain⟨s0,γ0,h0,hk0⟩:=uZ (K:=Ez Θ Γ H.own H.upd ops.toList (QA .normal)) (H.frz id) st γ h ha;exact aaR hE hm h0 hk0 λs γ' a' w' hK hR=>hQ _ _ _ _ _ hK hR
 |seq x y ihx ihy=>
  intro QA Q st γ a w h ha hQ;rw[yQ]at ha;split at ha
  .refine wp_seq (ihx _ _ st γ a w h ha ?_);intro e s γ' a' w' hq hR;cases e<;>first|exact ihy _ _ s γ' a' w' hR hq hQ|exact hQ _ _ _ _ _ hq hR
  .next sp hsp=>
   split at ha
   .next x0 hx=>
    obtain⟨J,h1,h2⟩:=ha;refine wp_seq (ihx _ _ st γ a w h h1 ?_);intro e s γ' a' w' hq hR;cases e with
    |normal=>
     simp only at hq;split at hq
     .next s1 hs1=>
      split at hq
      .next x1 y1 hsn hx1 hy1=>obtain⟨rfl,hJ⟩:=hq;obtain⟨γ1,hR1⟩:=Rel.settles _ hR hs1;have hR2:=hR1.joint hx1 hy1;rw[ahs hsn]at hR2;exact ihy _ _ _ γ1 a' w' hR2 (h2 _ hJ) hQ
      .exact hq.elim
     .exact hq.elim
    |_=>exact hQ _ _ _ _ _ hq hR
   .exact ha.elim
 |cond c x y ihx ihy=>
  intro QA Q st γ a w h ha hQ;rw[yQ]at ha;split at ha
  .next b hb=>
   have hv:a.eval c=.bool b:=by have:=dS h c;rw[hb]at this;exact this
   refine wp_cond_split hv (λe=>?_) (λe=>?_)
   .subst e;exact ihx _ _ st γ a w h ha hQ
   .subst e;exact ihy _ _ st γ a w h ha hQ
  .exact ha.elim
 |block id c ih=>
  intro QA Q st γ a w h ha hQ;refine wp_block (ih _ _ st γ a w h ha ?_);intro e s γ' a' w' hq hR;cases e with
  |exit i=>
   simp only[Exit.inBlock];cases hb:Nat.beq i id with
   |true=>
    simp only[hb]at hq;rw[if_pos (ahs hb)];exact hQ _ _ _ _ _ hq hR
   |false=>
    simp only[hb]at hq;rw[if_neg (by rintro rfl;simp at hb)];exact hQ _ _ _ _ _ hq hR
  |_=>exact hQ _ _ _ _ _ hq hR
 |loop c ih=>
  intro QA Q st γ a w h ha hQ;rw[yQ]at ha;split at ha
  .split at ha
   .next sp hsp=>
    split at ha
    .next s0 hs0=>
     split at ha
     .next x0 y0 hx hy=>
      obtain⟨I,μ,h0,hI⟩:=ha;obtain⟨γ0,hR0⟩:=Rel.settles _ h hs0
      let J:sp.v.den->Act->World->Prop:=λy a' w'=>∃γ',Rel w0 M T γ' (joint s0.n sp.c sp.v x0 y) a' w'
      have key:∀(n:Nat)(y:sp.v.den),μ y=n->I y->∀a' w',J y a' w'->∀(b:Frame)(k:List Item)(cs:List Frame),
       ∃e a'' w'',Q e a'' w''/\Arrives P (lone (b.at a' (.code c:: .inLoop c::k)) cs w') b k cs e a'' w'':=by
       intro n
       induction n using Nat.strongRecOn with
       |_ n ihn=>
        intro y hμ hy' a' w' ⟨γ',hR⟩ b k cs;have hbody:=ih _ (Exit.then (λa2 w2=>∃y2,I y2/\μ y2<μ y/\J y2 a2 w2) Q) _ γ' a' w' hR (hI y hy') ?_
        .obtain⟨e,a1,w1,hq,harr⟩:=hbody b (.inLoop c::k) cs;cases e with
         |normal=>
          obtain⟨y2,hI2,hlt,hJ2⟩:=hq;obtain⟨e2,a2,w2,hq2,aeC⟩:=ihn (μ y2) (hμ▸hlt) y2 rfl hI2 a1 w1 hJ2 b k cs;exact⟨e2,a2,w2,hq2,.of_steps (Steps.trans harr (.one step_inLoop)) aeC⟩
         |exit id=>exact⟨_,a1,w1,hq,.pass (x:=.inLoop c) rfl (λ_ _=>.inl (by simp)) harr⟩
         |goto l=>exact⟨_,a1,w1,hq,.pass (x:=.inLoop c) rfl (λ_ _=>.inl (by simp)) harr⟩
         |ret=>exact⟨_,a1,w1,hq,.pass (x:=.inLoop c) rfl (λ_ _=>.inl (by simp)) harr⟩
         |panic ch=>exact⟨_,a1,w1,hq,.pass (x:=.inLoop c) rfl (λ_ _=>.inl (by simp)) harr⟩
         |outgrown=>exact⟨_,a1,w1,hq,.pass (x:=.inLoop c) rfl (λ_ _=>.inl (by simp)) harr⟩
        .intro e s γ2 a2 w2 hq hR2;cases e with
         |normal=>
          simp only at hq;split at hq
          .next s1 hs1=>
           split at hq
           .next x1 y1 hsn hx1 hy1=>obtain⟨rfl,hI1,hlt⟩:=hq;obtain⟨γ3,dU⟩:=Rel.settles _ hR2 hs1;have hJ:=dU.joint hx1 hy1;rw[ahs hsn]at hJ;exact⟨y1,hI1,hlt,_,hJ⟩
           .exact hq.elim
          .exact hq.elim
         |_=>exact hQ _ _ _ _ _ hq hR2
      intro b k cs;obtain⟨e,a',w',hq,harr⟩:=key _ y0 rfl h0 a w ⟨_,hR0.joint hx hy⟩ b k cs;exact⟨e,a',w',hq,.of_steps (.one step_loop) harr⟩
     .exact ha.elim
    .exact ha.elim
   .exact ha.elim
  .exact ha.elim
 |rangeFunc f ps x y ihx ihy=>intro QA Q st γ a w h ha hQ;exact ha.elim
 |exit id=>intro QA Q st γ a w h ha hQ;exact wp_exit (hQ _ _ _ _ _ ha h)
 |scope c ih=>intro QA Q st γ a w h ha hQ;exact ha.elim
 |label l=>intro QA Q st γ a w h ha hQ;exact ha.elim
 |goto l=>intro QA Q st γ a w h ha hQ;exact ha.elim
 |ret=>intro QA Q st γ a w h ha hQ;exact wp_ret (hQ _ _ _ _ _ ha h)
 |refuse s=>intro QA Q st γ a w h ha hQ;exact ha.elim
def Arg.av:Arg->AV
 |.sv v=>.sv v
 |.kp cs=>.bW cs 0
 |.fn f caps=>.fn f caps
 |.own _ _ _|.ptr _=>.undef
def entry(n:Nat)(args:List Arg):St:=
 {n:=n,tmps:=λt=>match args[t]? with|some v=>v.av|none=>.undef,af:=λ_=>none}
def EC(st:St)(o:Nat):Bool:=match st.af o with|some (.arr _ _ _ _)=>true|_=>false
def Qv(Θ:dZ)(st:St):ResultVar->Option SV
 |.tmp t=>match st.tmps t with|.sv v=>some v|_=>none
 |.cell t ty=>match Θ ty,st.tmps t with
  |some ti,.cu o off=>match st.af o with
   |some (.var cs)=>gZ ti cs off
   |_=>none
  |_,_=>none
def Dv(Θ:dZ)(st:St):List ResultVar->Option (List SV)
 |[]=>some []
 |r::rs=>match Qv Θ st r,Dv Θ st rs with
  |some v,some vs=>some (v::vs)
  |_,_=>none
def outOf:SV->Bool×List bV
 |.one c=>(false,[.plain c])
 |.agg cs=>(true,cs.map .plain)
def outs:List SV->List (Bool×List bV)
 |[]=>[]
 |v::vs=>outOf (v.kill λ_=>true)::outs vs
def fin(Θ:dZ)(rv:List ResultVar)(st:St):Option Out:=
 match Dv Θ (st.freeze (EC st)) rv with
 |some vs=>some ⟨outs vs,none⟩
 |none=>none
theorem ED:∀(k:Nat)(cs:List Cell),fB k (cs.map .plain)=(cs,[])
 |_,[]=>rfl
 |k,c::cs=>by simp only[ahE,fB,ED (k+1) cs,bV.take,ah0]
theorem Yu(k:Nat)(v:SV):oq k (outOf v)=(v,[]):=by
 cases v with
 |one c=>rfl
 |agg cs=>simp only[oq,outOf,ED]
theorem ada(v:Value)(t:TypeId)(b off:Nat)(hv:v=.pointer (some ⟨b,off,none⟩)):Instr.loadAt t v=(do loadVar t (← asAddr v)):=by subst hv;rfl
def Aw(tmps:Array Value):ResultVar->Sem Value
 |.tmp t=>pure (tmps.getD t undef)
 |.cell x t=>do loadVar t (← asAddr (tmps.getD x undef))
theorem Io(fn:Func)(tmps:Array Value):results fn tmps=(do let vs ← fn.results.mapM (Aw tmps);pure (if h:vs.size=1 then vs[0]else .tuple vs)):=by unfold results;congr 1
theorem W9(hΘ:∀t ti,Θ t=some ti->ig P t ti)(h:Rel w0 M T γ st a w){r:ResultVar}{v:SV}(hf:Qv Θ st r=some v):
 ∃u,(Aw a.tmps r).run P w=.ok u w/\bF (aj w0 T γ st w) v u:=by
 cases r with
 |tmp t=>
  simp only[Qv]at hf;split at hf
  .next e=>cases hf;have:=h.tmps t;rw[e]at this;exact⟨_,rfl,this⟩
  .cases hf
 |cell x t=>
  simp only[Qv]at hf;split at hf
  .next ti o off ht hx=>
   split at hf
   .next cs ho=>have hv:=h.tmps x;rw[hx]at hv;obtain⟨b,cs',_,_,hv'⟩:=hv;obtain⟨u,hu,hr⟩:=Es hΘ h ht (x:=.tmp x) (.inl ⟨o,off,cs,hx,ho,hf⟩);refine⟨u,?_,hr⟩;rw[Aw,← ada _ t b off hv'];exact hu
   .cases hf
  .cases hf
theorem Dw(hΘ:∀t ti,Θ t=some ti->ig P t ti)(h:Rel w0 M T γ st a w):∀(rs:List ResultVar)(vs:List SV),Dv Θ st rs=some vs->
 ∃us,(rs.mapM (Aw a.tmps)).run P w=.ok us w/\
  bG (aj w0 T γ st w) vs us
 |[],vs,hf=>by cases hf;exact⟨[],rfl,trivial⟩
 |r::rs,vs,hf=>by
  rw[Dv]at hf;split at hf
  .next v vs' h1 h2=>cases hf;obtain⟨u,hu,hr⟩:=W9 hΘ h h1;obtain⟨us,hus,hrs⟩:=Dw hΘ h rs vs' h2;refine⟨u::us,?_,hr,hrs⟩;rw[akh,ahD,hu];simp only[ah8,ahD,hus,aik]
  .cases hf
theorem bG.length{X:V}:∀(cs:List SV)(vs:List Value),bG X cs vs->vs.length=cs.length
 |[],[],_=>rfl
 |_::cs,_::vs,⟨_,h⟩=>by simp[bG.length cs vs h]
 |[],_::_,H|_::_,[],H=>by cases H
theorem bG.get{X:V}:∀(cs:List SV)(vs:List Value)(i:Nat)(c:SV),bG X cs vs->cs[i]? =some c->∃v,vs[i]? =some v/\bF X c v
 |[],_,_,_,_,h=>by simp at h
 |c::cs,v::vs,0,d,⟨h1,_⟩,h=>by simp at h;subst h;exact⟨v,rfl,h1⟩
 |c::cs,v::vs,i+1,d,⟨_,h2⟩,h=>by
  obtain⟨u,hu,hr⟩:=bG.get cs vs i d h2 (by simpa using h);exact⟨u,by simpa using hu,hr⟩
 |_::_,[],_,_,H,_=>by cases H
theorem jy.length{X:V}:∀(cs:List Arg)(vs:List Value),jy X cs vs->vs.length=cs.length
 |[],[],_=>rfl
 |_::cs,_::vs,⟨_,h⟩=>by simp[jy.length cs vs h]
 |[],_::_,H|_::_,[],H=>by cases H
theorem jy.get{X:V}:∀(cs:List Arg)(vs:List Value)(i:Nat)(c:Arg),jy X cs vs->cs[i]? =some c->∃v,vs[i]? =some v/\kV X c v
 |[],_,_,_,_,h=>by simp at h
 |c::cs,v::vs,0,d,⟨h1,_⟩,h=>by simp at h;subst h;exact⟨v,rfl,h1⟩
 |c::cs,v::vs,i+1,d,⟨_,h2⟩,h=>by
  obtain⟨u,hu,hr⟩:=jy.get cs vs i d h2 (by simpa using h);exact⟨u,by simpa using hu,hr⟩
 |_::_,[],_,_,H,_=>by cases H
theorem kV.av{X:V}:∀(c:Arg)(v:Value),kV X c v->aH X c.av v
 |.sv _,_,h|.kp _,_,h|.fn _ _,_,h=>h
 |.own _ _ _,_,h|.ptr _,_,h=>h.elim
theorem aaT{args:List Arg}{vs:Array Value}{S:Nat->Prop}(n:Nat)(hn:args.length<=n)
 (h:jy ⟨w,w.heap.size,S,λ_=>undef,λ_=>none⟩ args vs.toList):
 Rel w (λ_=>False) ⟨S,λ_=>none,λ_ _ h=>by cases h⟩ (λ_=>undef) (entry n args) {tmps:=vs++Array.replicate (n-vs.size) undef,defers:=[]} w:=by
 have hl:vs.size=args.length:=by simpa using jy.length _ _ h
 refine⟨λ_ h=>h.elim,rfl,?_,rfl,rfl,rfl,ahx _,λ_ _ _=>rfl,λt=>?_,(λo x hx=>by cases hx),(λo x b hx=>by cases hx),(λo x p y b hx=>by cases hx),(λo v cs hN=>by cases hN)⟩
 .simp[entry];omega
 .simp only[entry];cases ha:args[t]? with
  |none=>trivial
  |some v=>
   obtain⟨u,hu,hr⟩:=jy.get _ _ t v h ha;have:(vs++Array.replicate (n-vs.size) undef).getD t undef=u:=by
    have hlt:t<args.length:=by
     rcases ahQ t args.length with h'|h'
     .exact h'
     .rw[aiD h']at ha;cases ha
    have hlt':t<vs.size:=by omega
    rw[aiY,ai2 hlt'];have:vs[t]? =some u:=by simpa using hu
    rw[this];rfl
   rw[this];exact kV.av v u hr
end Go.Fw
namespace Go.Fw
def codeOf(fn:Func):Code:=match fn.body with|some c=>c|none=>.skip
def Qw:List (Nat×TI)->dZ
 |[],_=>none
 |(t,x)::r,i=>match Nat.beq i t with|true=>some x|false=>Qw r i
def BD:List (Nat×Ba)->gG
 |[],_=>none
 |(t,x)::r,i=>match Nat.beq i t with|true=>some x|false=>BD r i
def ZM:List (Nat×zQ)->Nat->Option zQ
 |[],_=>none
 |(t,x)::r,i=>match Nat.beq i t with|true=>some x|false=>ZM r i
def acJ:List (Nat×List Pre)->Nat->List Pre
 |[],_=>[]
 |(n,z)::r,i=>match Nat.beq i n with|true=>z|false=>acJ r i
def hints(own:List Nat)(l c:List (Nat×zQ))(u:List Nat)(z:List (Nat×List Pre)):Hints:=⟨aF own,ZM l,ZM c,u,acJ z⟩
end Go.Fw
namespace Go.Fw
open Go
variable {P:Program} {Θ:dZ} {Γ:gG}
inductive jV where
 |one (c:dG)
 |agg (l:List dG)
@[reducible] def jV.den:jV->Type
  |.one c=>c.den
  |.agg l=>iD l
def jV.val:(s:jV)->s.den->SV
 |.one c,x=>.one (c.cell x)
 |.agg l,x=>.agg (dJ l x)
def jV.read:(s:jV)->SV->Option s.den
 |.one c,.one x=>c.read x
 |.agg l,.agg xs=>fC l xs
 |_,_=>none
theorem jV.weak{X:V}(s:jV)(x:SV)(d:s.den)(v:Value)(hr:s.read x=some d)(hv:bF X x v):bF X (s.val d) v:=by
 unfold jV.read at hr;split at hr
 .exact dG.weak _ _ _ _ hr hv
 .obtain⟨vs,e,h⟩:=hv;exact⟨vs,e,wE _ _ _ _ hr h⟩
 .cases hr
@[reducible] def jD:List jV->Type
  |[]=>Unit
  |s::r=>s.den×jD r
def kZ:(l:List jV)->jD l->List SV
 |[],_=>[]
 |s::r,x=>s.val x.1::kZ r x.2
def F9:(l:List jV)->List SV->Option (jD l)
 |[],[]=>some ()
 |s::r,x::xs=>match s.read x,F9 r xs with
  |some a,some b=>some (a,b)
  |_,_=>none
 |_,_=>none
theorem aaU{X:V}:∀(l:List jV)(xs:List SV)(d:jD l)(vs:List Value),F9 l xs=some d->bG X xs vs->bG X (kZ l d) vs
 |[],[],_,_,_,hv=>hv
 |s::r,x::xs,d,vs,hr,hv=>by
  rw[F9]at hr;split at hr
  .next a b h1 h2=>
   cases hr;cases vs with
   |nil=>cases hv
   |cons v vs=>exact⟨jV.weak s x a v h1 hv.1,aaU r xs b vs h2 hv.2⟩
  .cases hr
 |[],_::_,_,_,hr,_=>by simp[F9]at hr
 |_::_,[],_,_,hr,_=>by simp[F9]at hr
mutual
def CT.lJ:(c:CT)->c.den->Prop
 |.int k,(n:Int)=>k.min<=n/\n<=k.max
 |.bool,_=>True
 |.str,(s:Bytes)=>s.length<=maxLen
 |.sl _ r,(l:List r.den)=>l.length<=maxLen/\∀x∈l,r.lJ x
def ak.lJ:(r:ak)->r.den->Prop
 |.nil,_=>True
 |.cons c r,x=>c.lJ x.1/\r.lJ x.2
end
mutual
theorem dL.lJ{h:Array Obj}{S:Nat->Prop}:∀(c:CT)(v:Value)(x:c.den),dL h S c v x->c.lJ x
 |.int k,v,(n:Int),H=>by rw[dL]at H;rw[CT.lJ];exact H.2
 |.bool,v,(b:Bool),H=>by rw[CT.lJ];trivial
 |.str,v,(s:Bytes),H=>by rw[dL]at H;rw[CT.lJ];exact H.2
 |.sl e r,v,(l:List r.den),H=>by
  rw[dL]at H;rw[CT.lJ];refine⟨H.1,λx hx=>?_⟩;obtain⟨i,hi,rfl⟩:=aiF.1 hx;rcases H.2 with⟨hnil,_⟩|⟨b,off,cap,cs,t,fz,_,_,_,_,hr⟩
  .subst hnil;simp at hi
  .exact aI.lJ r _ _ (hr i _ (ahw hi))
theorem aI.lJ{h:Array Obj}{S:Nat->Prop}:∀(r:ak)(vs:List Value)(x:r.den),aI h S r vs x->r.lJ x
 |.nil,vs,_,H=>by rw[ak.lJ];trivial
 |.cons c r,vs,(x,y),H=>by rw[aI]at H;obtain⟨v,vs',_,h1,h2⟩:=H;rw[ak.lJ];exact⟨dL.lJ c v x h1,aI.lJ r vs' y h2⟩
end
def dG.lJ:(c:dG)->c.den->Prop
 |.int k,(n:Int)=>k.min<=n/\n<=k.max
 |.str,(s:Bytes)=>s.length<=maxLen
 |.sl _ r _,(l:List r.den)=>l.length<=maxLen/\∀x∈l,r.lJ x
 |_,_=>True
def MS:(l:List dG)->iD l->Prop
 |[],_=>True
 |c::r,x=>c.lJ x.1/\MS r x.2
def jV.lJ:(s:jV)->s.den->Prop
 |.one c,x=>c.lJ x
 |.agg l,x=>MS l x
theorem dG.MV{X:V}(c:dG)(x:c.den)(v:Value)(h:aG X (c.cell x) v):c.lJ x:=by
 cases c with
 |int k=>exact h.2
 |str=>exact h.2
 |sl e r fr=>
  have h':dL X.w.heap (X.aX fr) (.sl e r) v x:=h;have:=dL.lJ (.sl e r) v x h';rw[CT.lJ]at this;exact this
 |_=>trivial
theorem Az{X:V}:∀(l:List dG)(x:iD l)(vs:List Value),ai X (dJ l x) vs->MS l x
 |[],_,_,_=>trivial
 |c::r,x,v::vs,h=>⟨dG.MV c x.1 v h.1,Az r x.2 vs h.2⟩
 |_::_,_,[],h=>by cases h
inductive dV where
 |v (s:jV)
 |kp (l:List dG)
 |fn (f:FuncId) (l:List (List dG))
@[reducible] def dV.den:dV->Type
  |.v s=>s.den
  |.kp l=>iD l
  |.fn _ l=>sU l
def dV.val:(s:dV)->s.den->Arg
 |.v s,x=>.sv (s.val x)
 |.kp l,x=>.kp (dJ l x)
 |.fn f l,x=>.fn f (Ar l x)
def dV.read:(s:dV)->Arg->Option s.den
 |.v s,.sv x=>s.read x
 |.kp l,.kp xs=>fC l xs
 |.fn f l,.fn g xs=>match Nat.beq f g with|true=>xG l xs|false=>none
 |_,_=>none
theorem dV.weak{X:V}(s:dV)(x:Arg)(d:s.den)(v:Value)(hr:s.read x=some d)(hv:kV X x v):kV X (s.val d) v:=by
 unfold dV.read at hr;split at hr
 .exact jV.weak _ _ _ _ hr hv
 .obtain⟨b,e,hk⟩:=hv;exact⟨b,e,UX hr hk⟩
 .split at hr
  .next hb=>obtain⟨us,e,hk⟩:=hv;rw[dV.val,ahs hb];exact⟨us,e,KH _ _ _ _ hr hk⟩
  .cases hr
 .cases hr
@[reducible] def eY:List dV->Type
  |[]=>Unit
  |s::r=>s.den×eY r
def nG:(l:List dV)->eY l->List Arg
 |[],_=>[]
 |s::r,x=>s.val x.1::nG r x.2
def yR:(l:List dV)->List Arg->Option (eY l)
 |[],[]=>some ()
 |s::r,x::xs=>match s.read x,yR r xs with
  |some a,some b=>some (a,b)
  |_,_=>none
 |_,_=>none
theorem AA{X:V}:∀(l:List dV)(xs:List Arg)(d:eY l)(vs:List Value),yR l xs=some d->jy X xs vs->jy X (nG l d) vs
 |[],[],_,_,_,hv=>hv
 |s::r,x::xs,d,vs,hr,hv=>by
  rw[yR]at hr;split at hr
  .next a b h1 h2=>
   cases hr;cases vs with
   |nil=>cases hv
   |cons v vs=>exact⟨dV.weak s x a v h1 hv.1,AA r xs b vs h2 hv.2⟩
  .cases hr
 |[],_::_,_,_,hr,_=>by simp[yR]at hr
 |_::_,[],_,_,hr,_=>by simp[yR]at hr
theorem Jq:∀(l:List dV)(d:eY l),(nG l d).length=l.length
 |[],_=>rfl
 |_::r,d=>by simp[nG,Jq r d.2]
def Tm:(l:List (List dG))->sU l->Prop
 |[],_=>True
 |c::r,x=>MS c x.1/\Tm r x.2
def dV.lJ:(s:dV)->s.den->Prop
 |.v s,x=>s.lJ x
 |.kp l,x=>MS l x
 |.fn _ l,x=>Tm l x
def BK:(l:List dV)->eY l->Prop
 |[],_=>True
 |s::r,x=>s.lJ x.1/\BK r x.2
theorem Oh{X:V}:∀(l:List (List dG))(x:sU l)(us:List Value),bQ X (Ar l x) us->Tm l x
 |[],_,_,_=>trivial
 |c::r,x,u::us,h=>by
  obtain⟨⟨b,hu,arr,t,fz,hf,hh,hc⟩,h2⟩:=h;exact⟨Az c x.1 _ hc,Oh r x.2 us h2⟩
 |_::_,_,[],h=>by cases h
theorem uD{X:V}:∀(l:List dV)(x:eY l)(vs:List Value),jy X (nG l x) vs->BK l x
 |[],_,_,_=>trivial
 |.v (.one c)::r,x,v::vs,h=>⟨dG.MV c x.1 v h.1,uD r x.2 vs h.2⟩
 |.v (.agg l)::r,x,v::vs,h=>by
  obtain⟨ws,hv,hc⟩:=h.1;exact⟨Az l x.1 _ hc,uD r x.2 vs h.2⟩
 |.kp l::r,x,v::vs,h=>by
  obtain⟨b,hu,arr,t,fz,hf,hh,hc⟩:=h.1;exact⟨Az l x.1 _ hc,uD r x.2 vs h.2⟩
 |.fn f l::r,x,v::vs,h=>by
  obtain⟨us,hv,hk⟩:=h.1;exact⟨Oh l x.1 _ hk,uD r x.2 vs h.2⟩
 |_::_,_,[],h=>by cases h
def rJ(sh:List dV)(F:eY sh->Prop×Out):Ai:=λargs=>
 match yR sh args with
 |some x=>some (F x)
 |none=>none
def rM:List SV->List (Bool×List bV)
 |[]=>[]
 |v::vs=>outOf v::rM vs
theorem Gf:∀(k:Nat)(vs:List SV),dO k (rM vs)=(vs,[])
 |_,[]=>rfl
 |k,v::vs=>by simp only[rM,dO,Yu,Gf,ah0]
def Qx(Θ:dZ)(rv:List ResultVar)(bf:List jV)(K:jD bf->Prop)(e:Exit)(st:St):Prop:=
 match e with
 |.normal|.ret=>match Dv Θ (st.freeze (EC st)) rv with
  |some vs=>match F9 bf (vs.map (SV.kill λ_=>true))with
   |some d=>K d
   |none=>False
  |none=>False
 |_=>False
theorem adb{G:fG}(hE:EnvB P G Θ Γ)(hm:P.follows .mixedOrders=true){f:FuncId}{fn:Func}{c:Code}(hf:P.funcs[f]? =some fn)(hb:fn.body=some c)(H:Hints){con:Ai}{bf:List jV}
 (hwalk:∀args p out,con args=some (p,out)->p->Nat.ble args.length fn.ntmps=true/\∃d:jD bf,out=⟨rM (kZ bf d),none⟩/\yQ Θ Γ H c (Qx Θ fn.results.toList bf λy=>y=d) (entry fn.ntmps args)):gy P G f con:=by
 intro args p out k S vs w hcon hp hG hrep;obtain⟨hn,d,hout,hw⟩:=hwalk args p out hcon hp;subst hout;have hn':args.length<=fn.ntmps:=by simpa[ajl]using hn
 refine calls_of_wp hf hb (KL ⟨hE,hG,λb hb=>hb.elim⟩ hm H c _ _ _ _ _ _ (aaT (S:=S) fn.ntmps hn' hrep) hw ?_);have hret:∀s γ' a' w',Qx Θ fn.results.toList bf (λy=>y=d) .ret s->Rel w (λ_=>False) ⟨S,λ_=>none,λ_ _ h=>by cases h⟩ γ' s a' w'->bodyPost P fn (λe w'=>∃v vals,e=.returned v/\w'.os=w.os/\w'.tape=w.tape/\w'.output=w.output/\w.heap.size<=w'.heap.size/\
  (∀b,b<w.heap.size->w'.heap[b]? =w.heap[b]?)/\
  aH ⟨w',w.heap.size,S,vals,look (Out.take k ⟨rM (kZ bf d),none⟩).2⟩ (Out.take k ⟨rM (kZ bf d),none⟩).1 v/\
  (∀o x,look (Out.take k ⟨rM (kZ bf d),none⟩).2 o=some x->aN ⟨w',w.heap.size,S,vals,look (Out.take k ⟨rM (kZ bf d),none⟩).2⟩ o x/\∀b,blk (vals o)=some b->w.heap.size<=b/\b<w'.heap.size)/\
  (∀o x q y b,look (Out.take k ⟨rM (kZ bf d),none⟩).2 o=some x->look (Out.take k ⟨rM (kZ bf d),none⟩).2 q=some y->o≠q->blk (vals o)=some b->blk (vals q)≠some b)) .ret a' w':=by
  intro s γ' a' w' he hR;refine⟨hR.defers,?_⟩;simp only[Qx]at he;split at he
  .next Xa hvs=>
   split at he
   .next y hy=>
    subst he;have UZ:=hR.freeze (EC s);obtain⟨us,hus,hrs⟩:=Dw hE.types UZ _ _ hvs;have hk0:=bG.kill (λ_=>true) UZ Xa us hrs;have hk:=aaU bf _ y us hy hk0;have htake:Out.take k ⟨rM (kZ bf y),none⟩=(match kZ bf y with|[v]=>.sv v|l=>.iL l,[]):=by unfold Out.take;simp only[Gf];rcases kZ bf y with _|⟨v,_|⟨v2,r⟩⟩<;>rfl
    have hmap:(fn.results.mapM (Aw a'.tmps)).run P w'=.ok us.toArray w':=by rw[ajs,Sem.run_map,hus];rfl
    refine⟨if h:us.toArray.size=1 then us.toArray[0]else .tuple us.toArray,?_,_,γ',rfl,hR.os,hR.tape,hR.output,hR.grow,λb hb=>hR.kept b hb (λh=>h),?_,?_,?_⟩
    .rw[Io,ahD,hmap];simp only[ah8,aik]
    .rw[htake];have hl:=bG.length _ _ hk
     match hm:kZ bf y,us,hk,hl with
     |[v],[u],hk,_=>exact hk.1
     |[],[],hk,_=>exact⟨_,by simp,hk⟩
     |v::v2::r,u::u2::us,hk,hl=>exact⟨_,by simp,hk⟩
     |[],_::_,hk,h4|_::_,[],hk,h4|[_],_::_::_,hk,h4|_::_::_,[_],hk,h4=>simp at h4
    .intro o x hx;rw[htake]at hx;cases hx
    .intro o x q y b hx;rw[htake]at hx;cases hx
   .exact he.elim
  .exact he.elim
 intro e s γ' a' w' he hR;cases e with
 |normal=>exact hret s γ' a' w' he hR
 |ret=>exact hret s γ' a' w' he hR
 |_=>exact he.elim
def iY(sh:List dV)(bf:List jV)(F:eY sh->Prop×jD bf):Ai:=rJ sh λx=>((F x).1,⟨rM (kZ bf (F x).2),none⟩)
theorem Tn{G:fG}(hE:EnvB P G Θ Γ)(hm:P.follows .mixedOrders=true){f:FuncId}{fn:Func}{c:Code}(hf:P.funcs[f]? =some fn)(hb:fn.body=some c)(H:Hints)
 {sh:List dV} {bf:List jV} {F:eY sh->Prop×jD bf} (hn:Nat.ble sh.length fn.ntmps=true)
 (hwalk:∀x,BK sh x->(F x).1->yQ Θ Γ H c (Qx Θ fn.results.toList bf λy=>y=(F x).2) (entry fn.ntmps (nG sh x))):gy P G f (iY sh bf F):=by
 have base:∀x,BK sh x->gy P G f (λargs=>@ite _ (args=nG sh x) (Classical.propDecidable _) (some ((F x).1,⟨rM (kZ bf (F x).2),none⟩)) none):=by
  intro x hin;refine adb (bf:=bf) hE hm hf hb H ?_;intro args p out hcon hp;split at hcon
  .next e=>
   have hF:((F x).1,(⟨rM (kZ bf (F x).2),none⟩:Out))=(p,out):=by simpa using hcon
   have h1:(F x).1=p:=congrArg Prod.fst hF;have h2:(⟨rM (kZ bf (F x).2),none⟩:Out)=out:=congrArg Prod.snd hF;have:=hwalk x hin (by rw[h1];exact hp);rw[e];exact⟨by rw[Jq];exact hn,(F x).2,h2.symm,this⟩
  .cases hcon
 intro args p out k S vs w hcon hp hG hrep;unfold iY rJ at hcon;split at hcon
 .next x hx=>have hv:=AA sh args x vs.toList hx hrep;exact base x (uD sh x _ hv) (nG sh x) p out k S vs w (by simp only[if_true];exact hcon) hp hG hv
 .cases hcon
inductive RC where
 |c (s:dG)
 |own (e:TypeId) (r:ak) (fr:Bool)
@[reducible] def RC.den:RC->Type
  |.c s=>s.den
  |.own _ r _=>List r.den
@[reducible] def Qy:List RC->Type
  |[]=>Unit
  |c::r=>c.den×Qy r
def RC.ZN:(c:RC)->c.den->bV
 |.c s,x=>.plain (s.cell x)
 |.own e r fr,l=>.own e r l fr
def Tq:(l:List RC)->Qy l->List bV
 |[],_=>[]
 |c::r,x=>c.ZN x.1::Tq r x.2
inductive mV where
 |one (c:RC)
 |agg (l:List RC)
@[reducible] def mV.den:mV->Type
  |.one c=>c.den
  |.agg l=>Qy l
@[reducible] def nR:List mV->Type
  |[]=>Unit
  |s::r=>s.den×nR r
def mV.out:(s:mV)->s.den->Bool×List bV
 |.one c,x=>(false,[c.ZN x])
 |.agg l,x=>(true,Tq l x)
def dY:(l:List mV)->nR l->List (Bool×List bV)
 |[],_=>[]
 |s::r,x=>s.out x.1::dY r x.2
def RC.name:RC->Cell->Option Nat
 |.own _ _ _,.ref o=>some o
 |_,_=>none
def Tt:List RC->List Cell->List (Option Nat)
 |c::r,x::xs=>c.name x::Tt r xs
 |_,_=>[]
def mV.names:mV->SV->List (Option Nat)
 |.one c,.one x=>[c.name x]
 |.agg l,.agg xs=>Tt l xs
 |_,_=>[]
def sV:List mV->List SV->List (Option Nat)
 |s::r,x::xs=>s.names x++sV r xs
 |_,_=>[]
def RC.read(st:St):(c:RC)->Cell->Option c.den
 |.c s,x=>match x.refs with|[]=>s.read x|_=>none
 |.own e r fr,.ref o=>match st.af o with
  |some (.arr f s l g)=>match Nat.beq e f&&Du fr g with
   |true=>if h:s.beq r=true then some (mY h l)else none
   |false=>none
  |_=>none
 |.own _ r _,.nil=>match Nat.ble 1 r.len with|true=>some []|false=>none
 |_,_=>none
def Gg(st:St):(l:List RC)->List Cell->Option (Qy l)
 |[],[]=>some ()
 |c::r,x::xs=>match c.read st x,Gg st r xs with
  |some a,some b=>some (a,b)
  |_,_=>none
 |_,_=>none
def mV.read(st:St):(s:mV)->SV->Option s.den
 |.one c,.one x=>c.read st x
 |.agg l,.agg xs=>Gg st l xs
 |_,_=>none
def uF(st:St):(l:List mV)->List SV->Option (nR l)
 |[],[]=>some ()
 |s::r,x::xs=>match s.read st x,uF st r xs with
  |some a,some b=>some (a,b)
  |_,_=>none
 |_,_=>none
inductive fJ where
 |p (s:dV)
 |own (e:TypeId) (r:ak)
 |ptr (l:List dG)
@[reducible] def fJ.den:fJ->Type
  |.p s=>s.den
  |.own _ r=>List r.den
  |.ptr l=>iD l
def fJ.mode:fJ->Mode
 |.p _=>.val
 |.own _ _=>.own
 |.ptr _=>.ptr
def fJ.val:(s:fJ)->s.den->Arg
 |.p s,x=>s.val x
 |.own e r,l=>.own e r l
 |.ptr l,x=>.ptr (dJ l x)
def fJ.read:(s:fJ)->Arg->Option s.den
 |.p s,x=>s.read x
 |.own e r,.own f s l=>match Nat.beq e f with
  |true=>if h:s.beq r=true then some (mY h l)else none
  |false=>none
 |.ptr l,.ptr cs=>fC l cs
 |_,_=>none
@[reducible] def jb:List fJ->Type
  |[]=>Unit
  |s::r=>s.den×jb r
def lY:(l:List fJ)->jb l->List Arg
 |[],_=>[]
 |s::r,x=>s.val x.1::lY r x.2
def lg:(l:List fJ)->List Arg->Option (jb l)
 |[],[]=>some ()
 |s::r,x::xs=>match s.read x,lg r xs with
  |some a,some b=>some (a,b)
  |_,_=>none
 |_,_=>none
@[reducible] def mg:List fJ->Type
  |[]=>Unit
  |.ptr l::r=>iD l×mg r
  |.p _::r|.own _ _::r=>mg r
def gV:(l:List fJ)->mg l->List Eff
 |[],_=>[]
 |.ptr l::r,x=>.var (dJ l x.1)::gV r x.2
 |.p _::r,x|.own _ _::r,x=>.lose::gV r x
def AB(st:St):(i:Nat)->(l:List fJ)->Option (mg l)
 |_,[]=>some ()
 |i,.ptr l::r=>match st.af (i*64+48),AB st (i+1) r with
  |some (.var cs),some b=>match cs.flatMap Cell.refs,fC l cs with
   |[],some a=>some (a,b)
   |_,_=>none
  |_,_=>none
 |i,.p _::r|i,.own _ _::r=>AB st (i+1) r
def Arg.avX(i:Nat):Arg->AV
 |.own _ _ _=>.sv (.one (.ref (i*64+49)))
 |.ptr _=>.cu (i*64+48) 0
 |a=>a.av
def wG(n:Nat)(args:List Arg):St:=
 {n:=n,tmps:=λt=>match args[t]? with|some v=>v.avX t|none=>.undef,af:=bY args}
def Qz(st:St)(W:List (Option Nat))(o:Nat):Bool:=EC st o&&!(J8 o W)
def VX(Θ:dZ)(rv:List ResultVar)(sh:List fJ)(bf:List mV)(K:nR bf×mg sh->Prop)(e:Exit)(st:St):Prop:=
 match e with
 |.normal|.ret=>match Dv Θ st rv with
  |some Xa=>match Dv Θ (st.freeze (Qz st (sV bf Xa))) rv with
   |some vs=>match qA (sV bf vs),uF (st.freeze (Qz st (sV bf Xa))) bf vs,AB (st.freeze (Qz st (sV bf Xa))) 0 sh with
    |true,some d,some b=>K (d,b)
    |_,_,_=>False
   |none=>False
  |none=>False
 |_=>False
def zL(sh:List fJ)(bf:List mV)(F:jb sh->Prop×(nR bf×mg sh->Prop)):Hy:=λargs=>
 match lg sh args with
 |some x=>some ((F x).1,⟨nR bf×mg sh,(F x).2,λt=>⟨dY bf t.1,none⟩,λt=>gV sh t.2⟩)
 |none=>none
def J4(sh:List fJ):List Mode:=sh.map fJ.mode
end Go.Fw
namespace Go.Fw
open Go
variable {P:Program} {w0:World} {M:Nat->Prop} {T:Ext} {γ γ':Nat->Value} {st:St} {a:Act} {w w':World} {Θ:dZ} {Γ:gG}
def Tv(args:List Arg)(γ:Nat->Value)(o:Nat):Option Value:=match bY args o with|some (.var _)=>some (γ o)|_=>none
theorem abI{args:List Arg}{o:Nat}{cs:List Cell}(h:bY args o=some (.var cs)):o%64=48:=by
 unfold bY at h;split at h
 .split at h<;>cases h
 .split at h
  .next hm=>exact ahs hm
  .cases h
 .cases h
def KN(args:List Arg)(γ:Nat->Value)(S:Nat->Prop):Ext where
 S:=λb=>S b\/rF (bY args) γ b
 N:=Tv args γ
 n48:=by
  intro p v h;unfold Tv at h;split at h
  .next cs hc=>exact abI hc
  .cases h
theorem pX.get{X:V}:∀(as:List Arg)(vs:List Value)(i:Nat),pX X i as vs->as.length=vs.length/\∀(j:Nat)(b:Arg),as[j]? =some b->∃v,vs[j]? =some v/\Dk X (i+j) b v
 |[],[],_,_=>⟨rfl,λj b h=>by simp at h⟩
 |x::as,v::vs,i,⟨h1,h2⟩=>by
  obtain⟨g1,g2⟩:=pX.get as vs (i+1) h2;refine⟨by simp[g1],λj b hb=>?_⟩;cases j with
  |zero=>simp at hb;subst hb;exact⟨v,rfl,h1⟩
  |succ j=>
   obtain⟨u,hu,hr⟩:=g2 j b (by simpa using hb);exact⟨u,by simpa using hu,by rw[show i+(j+1)=i+1+j by omega];exact hr⟩
 |[],_::_,_,H|_::_,[],_,H=>by cases H
theorem Dk.av{X:V}(i:Nat):∀(c:Arg)(v:Value),Dk X i c v->aH X (c.avX i) v
 |.own _ _ _,_,h=>h
 |.ptr _,_,h=>h
 |.sv _,_,h|.kp _,_,h|.fn _ _,_,h=>h
theorem QB{args:List Arg}{vs:Array Value}{S:Nat->Prop}(n:Nat)(hn:args.length<=n)
 (h:pX ⟨w,w.heap.size,S,γ,bY args⟩ 0 args vs.toList)
 (ho:∀o x,bY args o=some x->aN ⟨w,w.heap.size,S,γ,bY args⟩ o x/\∀b,blk (γ o)=some b->b<w.heap.size)
 (hs:∀o x q y b,bY args o=some x->bY args q=some y->o≠q->blk (γ o)=some b->blk (γ q)≠some b):
 Rel w (rF (bY args) γ) (KN args γ S) γ (wG n args) {tmps:=vs++Array.replicate (n-vs.size) undef,defers:=[]} w:=by
 obtain⟨hl0,hget⟩:=pX.get _ _ 0 h;have hl:vs.size=args.length:=by simpa using hl0.symm
 have le:V.le ⟨w,w.heap.size,S,γ,bY args⟩ ⟨w,w.heap.size,(KN args γ S).S,γ,bY args⟩:=
  ⟨ahx _,λb hb=>⟨⟨hb.1,λhlt=>.inl (hb.2.1 hlt),hb.2.2⟩,rfl⟩,λo cs hx=>⟨⟨cs,hx⟩,rfl⟩,λo e r l fr hx=>⟨⟨l,fr,hx⟩,rfl⟩⟩
 refine⟨λb hb=>.inr hb,rfl,?_,rfl,rfl,rfl,ahx _,λ_ _ _=>rfl,λt=>?_,λo x hx=>aN.mono le o x (λ_ _=>rfl) rfl (ho o x hx).1,λo x b hx hb=>⟨(ho o x hx).2 b hb,.inr ⟨o,x,hx,hb⟩⟩,λo x p y b hx hy hop hb=>hs o x p y b hx hy hop hb,λo v cs hN hx=>?_⟩
 .simp[wG];omega
 .simp only[wG];cases ha:args[t]? with
  |none=>trivial
  |some v=>
   obtain⟨u,hu,hr⟩:=hget t v ha;have:(vs++Array.replicate (n-vs.size) undef).getD t undef=u:=by
    have hlt:t<args.length:=by
     rcases ahQ t args.length with h'|h'
     .exact h'
     .rw[aiD h']at ha;cases ha
    have hlt':t<vs.size:=by omega
    rw[aiY,ai2 hlt'];have:vs[t]? =some u:=by simpa using hu
    rw[this];rfl
   rw[this];rw[ahN]at hr;exact aH.mono le _ _ (Dk.av t v u hr)
 .have hx':bY args o=some (.var cs):=hx;have hN':Tv args γ o=some v:=hN;unfold Tv at hN';rw[hx']at hN';exact Option.some.inj hN'
def AW(a a':Arg):Prop:=
 (∃e r l,a=.own e r l/\a'=.own e r l)\/(∃cs cs',a=.ptr cs/\a'=.ptr cs'/\∀(X:V) vs,ai X cs vs->ai X cs' vs)\/
 ((∀(X:V) v,aH X a.av v->aH X a'.av v)/\(∀i,a.avX i=a.av)/\(∀i,a'.avX i=a'.av)/\(∀e r l,a≠ .own e r l)/\(∀cs,a≠ .ptr cs)/\(∀e r l,a'≠ .own e r l)/\(∀cs,a'≠ .ptr cs))
theorem dV.ZO{s:dV}{x:Arg}{d:s.den}(h:s.read x=some d):AW x (s.val d):=by
 refine .inr (.inr ⟨λX v hv=>?_,?_⟩)
 .have hx:kV X x v:=by
   cases x with
   |sv _|kp _|fn _ _=>exact hv
   |own _ _ _|ptr _=>cases s<;>simp[dV.read]at h
  exact kV.av _ _ (dV.weak s x d v h hx)
 .cases x<;>cases s<;>first
   |(simp[dV.read]at h;done)
   |exact⟨λ_=>rfl,λ_=>rfl,(λ_ _ _ e=>by cases e),(λ_ e=>by cases e),(λ_ _ _ e=>by cases e),(λ_ e=>by cases e)⟩
theorem fJ.ZO{s:fJ}{x:Arg}{d:s.den}(h:s.read x=some d):AW x (s.val d):=by
 unfold fJ.read at h;split at h
 .exact dV.ZO h
 .next e r f s l=>
  split at h
  .next hb=>
   split at h
   .next hs=>cases h;have he:=ahs hb;subst he;have hsr:=ak.eq_of_beq s r hs;subst hsr;exact .inl ⟨e,s,l,rfl,rfl⟩
   .cases h
  .cases h
 .next l cs=>exact .inr (.inl ⟨cs,_,rfl,rfl,λX vs hc=>wE _ _ _ _ h hc⟩)
 .cases h
theorem BL:∀{l:List fJ}{xs:List Arg}{d:jb l},lg l xs=some d->(lY l d).length=xs.length/\∀(i:Nat)(a:Arg),xs[i]? =some a->∃a',(lY l d)[i]? =some a'/\AW a a'
 |[],[],_,_=>⟨rfl,λi a h=>by simp at h⟩
 |s::r,x::xs,d,h=>by
  rw[lg]at h;split at h
  .next a b h1 h2=>
   cases h;obtain⟨g1,g2⟩:=BL h2;refine⟨by simp[lY,g1],λi c hc=>?_⟩;cases i with
   |zero=>simp at hc;subst hc;exact⟨_,rfl,fJ.ZO h1⟩
   |succ i=>obtain⟨c',k1,k2⟩:=g2 i c (by simpa using hc);exact⟨c',by simpa[lY]using k1,k2⟩
  .cases h
 |[],_::_,_,h=>by simp[lg]at h
 |_::_,[],_,h=>by simp[lg]at h
theorem EF{args:List Arg}{o:Nat}(h:∀b,args[o / 64]? =some b->(∀e r l,b≠ .own e r l)/\∀cs,b≠ .ptr cs):bY args o=none:=by
 unfold bY;split
 .next e r l ha=>exact((h _ ha).1 e r l rfl).elim
 .next cs ha=>exact((h _ ha).2 cs rfl).elim
 .rfl
theorem Jr{sh:List fJ}{args:List Arg}{x:jb sh}(h:lg sh args=some x)(n:Nat):Covers (wG n (lY sh x)) (wG n args):=by
 obtain⟨hl,hget⟩:=BL h;refine⟨rfl,λt X v hv=>?_,λo=>?_⟩
 .simp only[wG]at hv ⊢;cases ha:args[t]? with
  |none=>
   have:(lY sh x)[t]? =none:=by rw[aj6]at ha ⊢;omega
   rw[this];trivial
  |some b=>
   obtain⟨b',hb',hw⟩:=hget t b ha;rw[ha]at hv;rw[hb'];dsimp only at hv ⊢;rcases hw with⟨e,r,l,rfl,rfl⟩|⟨cs,cs',rfl,rfl,_⟩|⟨hw,e1,e2,_⟩
   .exact hv
   .exact hv
   .rw[e1]at hv;rw[e2];exact hw X v hv
 .show(bY (lY sh x) o=none/\bY args o=none)\/∃y y',bY args o=some y/\bY (lY sh x) o=some y'/\zO y y';cases ha:args[o / 64]? with
  |none=>
   have h2:(lY sh x)[o / 64]? =none:=by rw[aj6]at ha ⊢;omega
   exact .inl ⟨EF (by rw[h2];intro b hb;cases hb),EF (by rw[ha];intro b hb;cases hb)⟩
  |some b=>
   obtain⟨b',hb',hw⟩:=hget _ b ha;rcases hw with⟨e,r,l,rfl,rfl⟩|⟨cs,cs',rfl,rfl,hc⟩|⟨_,_,_,n1,n2,n3,n4⟩
   .unfold bY;rw[ha,hb'];dsimp only;cases hm:Nat.beq (o%64) 49 with
    |true=>exact .inr ⟨_,_,rfl,rfl,.inr ⟨e,r,l,false,false,rfl,rfl,id⟩⟩
    |false=>exact .inl ⟨rfl,rfl⟩
   .unfold bY;rw[ha,hb'];dsimp only;cases hm:Nat.beq (o%64) 48 with
    |true=>exact .inr ⟨_,_,rfl,rfl,.inl ⟨cs,cs',rfl,rfl,hc⟩⟩
    |false=>exact .inl ⟨rfl,rfl⟩
   .exact .inl ⟨EF (by rw[hb'];intro c hc;cases hc;exact⟨n3,n4⟩),EF (by rw[ha];intro c hc;cases hc;exact⟨n1,n2⟩)⟩
theorem Oi(a b:List (Nat×ay))(p:Nat):look (a++b) p=match look b p with|some y=>some y|none=>look a p:=by
 induction a with
 |nil=>simp only[aif,look];cases look b p<;>rfl
 |cons x a ih=>obtain⟨o,z⟩:=x;rw[aix,look,ih,look];cases look b p<;>rfl
theorem mZ:∀(cs:List bV)(k p:Nat)(x:ay),look (fB k cs).2 p=some x↔∃i e r l fr,p=k+i/\cs[i]? =some (.own e r l fr)/\x=.arr e r l fr
 |[],k,p,x=>by simp[fB,look]
 |c::cs,k,p,x=>by
  rw[fB,Oi];have ih:=mZ cs (k+1) p x;constructor
  .intro h;split at h
   .next y hy=>cases h;obtain⟨i,e,r,l,fr,h1,h2,h3⟩:=(mZ cs (k+1) p x).1 hy;exact⟨i+1,e,r,l,fr,by omega,by simpa using h2,h3⟩
   .next hn=>
    cases c with
    |plain c=>simp[bV.take,look]at h
    |own e r l fr=>
     simp only[bV.take,look]at h;split at h
     .next hb=>cases h;exact⟨0,e,r,l,fr,by have:=ahs hb;omega,rfl,rfl⟩
     .cases h
  .rintro⟨i,e,r,l,fr,h1,h2,rfl⟩;cases i with
   |succ i=>
    have:=(mZ cs (k+1) p (.arr e r l fr)).2 ⟨i,e,r,l,fr,by omega,by simpa using h2,rfl⟩;rw[this]
   |zero=>
    simp at h2;subst h2;have hn:look (fB (k+1) cs).2 p=none:=by
     cases hl:look (fB (k+1) cs).2 p with
     |none=>rfl
     |some y=>obtain⟨i,_,_,_,_,g1,_⟩:=(mZ cs (k+1) p y).1 hl;omega
    rw[hn];have hp:p=k:=by omega
    subst hp;simp[bV.take,look]
def BM(rs:List (Bool×List bV)):List bV:=rs.flatMap (·.2)
theorem Yv(k:Nat)(x:Bool×List bV):(oq k x).2=(fB k x.2).2:=by
 unfold oq;split
 .next e1 e2=>rw[e2]
 .next e1 e2=>rw[e2]
 .next e1 e2=>rw[e2]
theorem sH:∀(rs:List (Bool×List bV))(k p:Nat)(x:ay),look (dO k rs).2 p=some x↔∃i e r l fr,p=k+i/\(BM rs)[i]? =some (.own e r l fr)/\x=.arr e r l fr
 |[],k,p,x=>by simp[dO,look,BM]
 |y::rs,k,p,x=>by
  rw[dO,Oi,Yv];have ZP:BM (y::rs)=y.2++BM rs:=rfl;constructor
  .intro h;split at h
   .next z hz=>cases h;obtain⟨i,e,r,l,fr,h1,h2,h3⟩:=(sH rs (k+y.2.length) p x).1 hz;refine⟨y.2.length+i,e,r,l,fr,by omega,?_,h3⟩;rw[ZP,ahZ (by omega)];simpa using h2
   .obtain⟨i,e,r,l,fr,h1,h2,h3⟩:=(mZ y.2 k p x).1 h;refine⟨i,e,r,l,fr,h1,?_,h3⟩;rw[ZP,aib (ahy.1 h2).1];exact h2
  .rintro⟨i,e,r,l,fr,h1,h2,rfl⟩;rw[ZP]at h2;rcases ahQ i y.2.length with hlt|hge
   .rw[aib hlt]at h2;have hn:look (dO (k+y.2.length) rs).2 p=none:=by
     cases hl:look (dO (k+y.2.length) rs).2 p with
     |none=>rfl
     |some z=>obtain⟨j,_,_,_,_,g1,_⟩:=(sH rs (k+y.2.length) p z).1 hl;omega
    rw[hn];exact(mZ y.2 k p _).2 ⟨i,e,r,l,fr,h1,h2,rfl⟩
   .rw[ahZ hge]at h2;have:=(sH rs (k+y.2.length) p (.arr e r l fr)).2 ⟨i-y.2.length,e,r,l,fr,by omega,h2,rfl⟩;rw[this]
end Go.Fw
namespace Go.Fw
open Go
set_option linter.unusedVariables false
variable {P:Program} {w0:World} {M:Nat->Prop} {T:Ext} {γ γ':Nat->Value} {st:St} {a:Act} {w w':World} {Θ:dZ} {Γ:gG}
def RF(Y:V)(c:bV)(v:Value)(n:Option Nat):Prop:=
 match c with
 |.plain x=>aG Y x v/\x.refs=[]
 |.own e r l fr=>0<r.len/\((∃o g,n=some o/\Y.af o=some (.arr e r l g)/\Du fr g=true/\v=Y.γ o/\v.oneCell'=true)\/(l=[]/\v=.slice none 0 0))
def wH(Y:V):List bV->List Value->List (Option Nat)->Prop
 |[],[],[]=>True
 |c::cs,v::vs,n::ns=>RF Y c v n/\wH Y cs vs ns
 |_,_,_=>False
theorem wH.append{Y:V}:∀(cs:List bV)(vs:List Value)(ns:List (Option Nat))(ds:List bV)(us:List Value)(ms:List (Option Nat)),wH Y cs vs ns->wH Y ds us ms->wH Y (cs++ds) (vs++us) (ns++ms)
 |[],[],[],_,_,_,_,h=>h
 |_::cs,_::vs,_::ns,ds,us,ms,⟨h1,h2⟩,h=>⟨h1,wH.append cs vs ns ds us ms h2 h⟩
theorem wH.length{Y:V}:∀(cs:List bV)(vs:List Value)(ns:List (Option Nat)),wH Y cs vs ns->cs.length=vs.length
 |[],[],[],_=>rfl
 |_::cs,_::vs,_::ns,⟨_,h2⟩=>by simp[wH.length cs vs ns h2]
theorem wH.get{Y:V}:∀(cs:List bV)(vs:List Value)(ns:List (Option Nat))(i:Nat)(c:bV),wH Y cs vs ns->cs[i]? =some c->∃v n,vs[i]? =some v/\ns[i]? =some n/\RF Y c v n
 |[],[],[],i,c,_,h=>by simp at h
 |x::cs,v::vs,n::ns,0,c,⟨h1,_⟩,h=>by simp at h;subst h;exact⟨v,n,rfl,rfl,h1⟩
 |x::cs,v::vs,n::ns,i+1,c,⟨_,h2⟩,h=>by obtain⟨u,m,g1,g2,g3⟩:=wH.get cs vs ns i c h2 (by simpa using h);exact⟨u,m,by simpa using g1,by simpa using g2,g3⟩
theorem dG.U0(c:dG)(x:Cell)(d:c.den)(h:c.read x=some d)(hx:x.refs=[]):(c.cell d).refs=[]:=by cases c<;>cases x<;>first|rfl|(simp[dG.read]at h;done)|(cases hx)
theorem RC.YZ{Y:V}(hst:Y.af=st.af)(hpos:∀o e r l g,st.af o=some (.arr e r l g)->0<r.len):∀(c:RC)(x:Cell)(d:c.den)(v:Value),c.read st x=some d->aG Y x v->RF Y (c.ZN d) v (c.name x):=by
 intro c x d v hr hv;cases c with
 |c s=>
  rw[RC.read]at hr;split at hr
  .next hx=>exact⟨dG.weak s x d v hr hv,dG.U0 s x d hr hx⟩
  .cases hr
 |own e r fr=>
  cases x with
  |ref o=>
   simp only[RC.read]at hr;split at hr
   .next f s l g ho=>
    split at hr
    .next hb=>
     split at hr
     .next hs=>cases hr;rw[ahq]at hb;have he:=ahs hb.1;subst he;have hsr:=ak.eq_of_beq s r hs;subst hsr;exact⟨hpos _ _ _ _ _ ho,.inl ⟨o,g,rfl,by rw[hst];exact ho,hb.2,hv.2.1,hv.2.2⟩⟩
     .cases hr
    .cases hr
   .cases hr
  |nil=>
   simp only[RC.read]at hr;split at hr
   .next hb=>cases hr;exact⟨ahP Nat.zero_lt_one (by simpa[ajl]using hb),.inr ⟨rfl,hv⟩⟩
   .cases hr
  |_=>simp[RC.read]at hr
theorem QC{Y:V}(hst:Y.af=st.af)(hpos:∀o e r l g,st.af o=some (.arr e r l g)->0<r.len):∀(l:List RC)(xs:List Cell)(d:Qy l)(vs:List Value),Gg st l xs=some d->ai Y xs vs->wH Y (Tq l d) vs (Tt l xs)
 |[],[],_,[],_,_=>trivial
 |c::r,x::xs,d,v::vs,h,⟨h1,h2⟩=>by
  rw[Gg]at h;split at h
  .next a b g1 g2=>cases h;exact⟨RC.YZ hst hpos c x a v g1 h1,QC hst hpos r xs b vs g2 h2⟩
  .cases h
 |[],_::_,_,_,h,_=>by simp[Gg]at h
 |_::_,[],_,_,h,_=>by simp[Gg]at h
theorem mV.Xb{Y:V}(hst:Y.af=st.af)(hpos:∀o e r l g,st.af o=some (.arr e r l g)->0<r.len):∀(s:mV)(x:SV)(d:s.den)(v:Value),s.read st x=some d->bF Y x v->wH Y (s.out d).2 v.cells.toList (s.names x)
 |.one c,.one x,d,v,h,hv=>by
  rw[yI v (aG.one x v hv)];exact⟨RC.YZ hst hpos c x d v h hv,trivial⟩
 |.agg l,.agg xs,d,v,h,⟨vs,hv,hc⟩=>by
  rw[hv];exact QC hst hpos l xs d _ h hc
 |.one _,.agg _,_,_,h,_|.agg _,.one _,_,_,h,_=>by simp[mV.read]at h
theorem QD{Y:V}(hst:Y.af=st.af)(hpos:∀o e r l g,st.af o=some (.arr e r l g)->0<r.len):∀(l:List mV)(xs:List SV)(d:nR l)(vs:List Value),uF st l xs=some d->bG Y xs vs->
 wH Y (BM (dY l d)) (vs.flatMap λv=>v.cells.toList) (sV l xs)
 |[],[],_,[],_,_=>trivial
 |s::r,x::xs,d,v::vs,h,⟨h1,h2⟩=>by
  rw[uF]at h;split at h
  .next a b g1 g2=>cases h;exact wH.append _ _ _ _ _ _ (mV.Xb hst hpos s x a v g1 h1) (QD hst hpos r xs b vs g2 h2)
  .cases h
 |[],_::_,_,_,h,_=>by simp[uF]at h
 |_::_,[],_,_,h,_=>by simp[uF]at h
def Go1(Z:V)(k:Nat)(c:bV)(v:Value):Prop:=aG Z (c.take k).1 v
def zD(Z:V):Nat->List bV->List Value->Prop
 |_,[],[]=>True
 |k,c::cs,v::vs=>Go1 Z k c v/\zD Z (k+1) cs vs
 |_,_,_=>False
theorem zD.of{Z:V}:∀(cs:List bV)(vs:List Value)(k:Nat),cs.length=vs.length->(∀i c v,cs[i]? =some c->vs[i]? =some v->Go1 Z (k+i) c v)->zD Z k cs vs
 |[],[],_,_,_=>trivial
 |c::cs,v::vs,k,hl,h=>⟨h 0 c v rfl rfl,zD.of cs vs (k+1) (by simpa using hl) λi c' v' h1 h2=>by
   have:=h (i+1) c' v' (by simpa using h1) (by simpa using h2)
   rwa [show k+(i+1)=k+1+i by omega]at this⟩
theorem zD.split{Z:V}:∀(cs:List bV)(vs:List Value)(ds:List bV)(us:List Value)(k:Nat),cs.length=vs.length->zD Z k (cs++ds) (vs++us)->zD Z k cs vs/\zD Z (k+cs.length) ds us
 |[],[],_,_,_,_,h=>⟨trivial,h⟩
 |c::cs,v::vs,ds,us,k,hl,⟨h1,h2⟩=>by obtain⟨g1,g2⟩:=zD.split cs vs ds us (k+1) (by simpa using hl) h2;exact⟨⟨h1,g1⟩,by rw[show k+(c::cs).length=k+1+cs.length by simp;omega];exact g2⟩
theorem zD.cells{Z:V}:∀(cs:List bV)(vs:List Value)(k:Nat),zD Z k cs vs->ai Z (fB k cs).1 vs
 |[],[],_,_=>trivial
 |c::cs,v::vs,k,⟨h1,h2⟩=>⟨h1,zD.cells cs vs (k+1) h2⟩
theorem mV.go{Y Z:V}:∀(s:mV)(x:SV)(d:s.den)(v:Value)(k:Nat),s.read st x=some d->bF Y x v->zD Z k (s.out d).2 v.cells.toList->bF Z (oq k (s.out d)).1 v
 |.one c,.one x,d,v,k,h,hv,hg=>by
  rw[yI v (aG.one x v hv)]at hg;exact hg.1
 |.agg l,.agg xs,d,v,k,h,⟨vs,hv,hc⟩,hg=>by
  rw[hv]at hg ⊢;exact⟨vs,rfl,zD.cells _ _ _ hg⟩
 |.one _,.agg _,_,_,_,h,_,_|.agg _,.one _,_,_,_,h,_,_=>by simp[mV.read]at h
theorem U1{Y Z:V}(hst:Y.af=st.af)(hpos:∀o e r l g,st.af o=some (.arr e r l g)->0<r.len):∀(l:List mV)(xs:List SV)(d:nR l)(vs:List Value)(k:Nat),uF st l xs=some d->bG Y xs vs->
 zD Z k (BM (dY l d)) (vs.flatMap λv=>v.cells.toList)->bG Z (dO k (dY l d)).1 vs
 |[],[],_,[],_,_,_,_=>trivial
 |s::r,x::xs,d,v::vs,k,h,⟨h1,h2⟩,hg=>by
  rw[uF]at h;split at h
  .next a b g1 g2=>cases h;have hl:=wH.length _ _ _ (mV.Xb hst hpos s x a v g1 h1);obtain⟨k1,k2⟩:=zD.split _ _ _ _ k hl hg;exact⟨mV.go s x a v k g1 h1 k1,U1 hst hpos r xs b vs _ g2 h2 k2⟩
  .cases h
 |[],_::_,_,_,_,h,_,_=>by simp[uF]at h
 |_::_,[],_,_,_,h,_,_=>by simp[uF]at h
theorem Oj:∀(l:List dG)(xs:List Cell)(d:iD l),fC l xs=some d->xs.flatMap Cell.refs=[]->(dJ l d).flatMap Cell.refs=[]
 |[],[],_,_,_=>rfl
 |c::r,x::xs,d,h,hx=>by
  rw[fC]at h;split at h
  .next a b g1 g2=>cases h;rw[aip,ah7]at hx;show(c.cell a::dJ r b).flatMap Cell.refs=[];rw[aip,dG.U0 c x a g1 hx.1,Oj r xs b g2 hx.2,ah0]
  .cases h
 |[],_::_,_,h,_=>by simp[fC]at h
 |_::_,[],_,h,_=>by simp[fC]at h
theorem BN:∀(sh:List fJ)(i:Nat)(b:mg sh),AB st i sh=some b->∀(j:Nat)(e:Eff),(gV sh b)[j]? =some e->
 e=.lose\/∃l cs cs0,sh[j]? =some (.ptr l)/\e=.var cs/\st.af ((i+j)*64+48)=some (.var cs0)/\cs0.flatMap Cell.refs=[]/\cs.flatMap Cell.refs=[]/\∀(X:V) vs,ai X cs0 vs->ai X cs vs
 |[],_,_,_,j,e,he=>by simp[gV]at he
 |.ptr l::r,i,b,h,j,e,he=>by
  rw[AB]at h;split at h
  .next cs b' hx hb=>
   split at h
   .next a hr ha=>
    cases h;cases j with
    |zero=>
     simp[gV]at he;subst he;exact .inr ⟨l,_,cs,rfl,rfl,by simpa using hx,hr,Oj _ _ _ ha hr,λX vs hc=>wE _ _ _ _ ha hc⟩
    |succ j=>
     rcases BN r (i+1) b' hb j e (by simpa[gV]using he)with h|⟨l,cs',cs0,h1,h2,h3,h4⟩
     .exact .inl h
     .exact .inr ⟨l,cs',cs0,by simpa using h1,h2,by rw[show i+(j+1)=i+1+j by omega];exact h3,h4⟩
   .cases h
  .cases h
 |.p _::r,i,b,h,j,e,he|.own _ _::r,i,b,h,j,e,he=>by
  rw[AB]at h;cases j with
  |zero=>simp[gV]at he;exact .inl he.symm
  |succ j=>
   rcases BN r (i+1) b h j e (by simpa[gV]using he)with h|⟨l,cs',cs0,h1,h2,h3,h4⟩
   .exact .inl h
   .exact .inr ⟨l,cs',cs0,by simpa using h1,h2,by rw[show i+(j+1)=i+1+j by omega];exact h3,h4⟩
theorem QE:∀{sh:List fJ}{xs:List Arg}{d:jb sh},lg sh xs=some d->∀(j:Nat)(l:List dG),sh[j]? =some (.ptr l)->∃cs,xs[j]? =some (.ptr cs)
 |[],[],_,_,j,l,h=>by simp at h
 |s::r,x::xs,d,h,j,l,hj=>by
  rw[lg]at h;split at h
  .next a b h1 h2=>
   cases j with
   |zero=>
    simp at hj;subst hj;cases x with
    |ptr cs=>exact⟨cs,rfl⟩
    |_=>simp[fJ.read]at h1
   |succ j=>obtain⟨cs,hc⟩:=QE h2 j l (by simpa using hj);exact⟨cs,by simpa using hc⟩
  .cases h
 |[],_::_,_,h,_,_,_=>by simp[lg]at h
 |_::_,[],_,h,_,_,_=>by simp[lg]at h
theorem aaV{sh:List fJ}{b:mg sh}(hb:AB st 0 sh=some b){q:Nat}{y:ay}(h:jO (gV sh b) q=some y):
 q%64=48/\∃l cs cs0,sh[q / 64]? =some (.ptr l)/\y=.var cs/\st.af q=some (.var cs0)/\cs0.flatMap Cell.refs=[]/\cs.flatMap Cell.refs=[]/\∀(X:V) vs,ai X cs0 vs->ai X cs vs:=by
 unfold jO at h;split at h
 .next e r l he=>rcases BN sh 0 b hb _ _ he with h'|⟨_,_,_,_,h',_⟩<;>cases h'
 .next cs he=>
  split at h
  .next hm=>
   have hm':=ahs hm;cases h;rcases BN sh 0 b hb _ _ he with h'|⟨l,cs',cs0,h1,h2,h3,h4⟩
   .cases h'
   .cases h2;refine⟨hm',l,_,cs0,h1,rfl,?_,h4⟩;rw[show q=(0+q / 64)*64+48 by omega];exact h3
  .cases h
 .cases h
def fJ.lJ:(s:fJ)->s.den->Prop
 |.p s,x=>s.lJ x
 |.own _ r,(l:List r.den)=>∀x∈l,r.lJ x
 |.ptr l,x=>MS l x
def BO:(l:List fJ)->jb l->Prop
 |[],_=>True
 |s::r,x=>s.lJ x.1/\BO r x.2
theorem dV.MV{X:V}(s:dV)(x:Arg)(d:s.den)(v:Value)(h:s.read x=some d)(hr:kV X x v):s.lJ d:=
 (uD (X:=X) [s] (d,()) [v] ⟨dV.weak s x d v h hr,trivial⟩).1
theorem KO{X:V}{args:List Arg}(ho:∀o x,bY args o=some x->aN X o x):∀(sh:List fJ)(xs:List Arg)(d:jb sh)(vs:List Value)(i:Nat),(∀j a,xs[j]? =some a->args[i+j]? =some a)->
 lg sh xs=some d->pX X i xs vs->BO sh d
 |[],[],_,_,_,_,_,_=>trivial
 |s::r,x::xs,d,v::vs,i,hj,h,⟨hv,hvs⟩=>by
  rw[lg]at h;split at h
  .next a b h1 h2=>
   cases h;refine⟨?_,KO ho r xs b vs (i+1) (λj c hc=>by have:=hj (j+1) c (by simpa using hc);rwa [show i+(j+1)=i+1+j by omega]at this) h2 hvs⟩;have hx:args[i]? =some x:=hj 0 x rfl;cases s with
   |p s=>
    have h1':s.read x=some a:=by simpa[fJ.read]using h1
    refine dV.MV (X:=X) s x a v h1' ?_;cases x with
    |own _ _ _|ptr _=>cases s<;>simp[dV.read]at h1'
    |_=>exact hv
   |own e r'=>
    cases x with
    |own f s' l=>
     have h1':(match Nat.beq e f with|true=>if h:s'.beq r'=true then some (mY h l)else none|false=>none)=some a:=h1;split at h1'
     .split at h1'
      .next hb hs=>
       cases h1';have hsr:=ak.eq_of_beq s' r' hs;subst hsr;have kW:bY args (i*64+49)=some (.arr f s' l false):=by unfold bY;rw[show(i*64+49) / 64=i by omega,hx];dsimp only;rw[show(i*64+49)%64=49 by omega]
       obtain⟨us,_,_,_,hrow⟩:=ho _ _ kW;intro y hy;have hy':y∈l:=hy;obtain⟨j,hj1,hj2⟩:=aiF.1 hy';exact aI.lJ s' _ _ (hrow j y (by rw[ahw hj1,hj2]))
      .cases h1'
     .cases h1'
    |_=>simp[fJ.read]at h1
   |ptr l=>
    cases x with
    |ptr cs=>
     have h1':fC l cs=some a:=h1;have kW:bY args (i*64+48)=some (.var cs):=by unfold bY;rw[show(i*64+48) / 64=i by omega,hx];dsimp only;rw[show(i*64+48)%64=48 by omega]
     obtain⟨_,arr,_,_,_,hc⟩:=ho _ _ kW;exact Az l a _ (wE _ _ _ _ h1' hc)
    |_=>simp[fJ.read]at h1
  .cases h
 |[],_::_,_,_,_,_,h,_=>by simp[lg]at h
 |_::_,[],_,_,_,_,h,_=>by simp[lg]at h
theorem Bd:∀(l:List fJ)(d:jb l),(lY l d).length=l.length
 |[],_=>rfl
 |_::r,d=>by simp[lY,Bd r d.2]
theorem Out.abJ(rs:List (Bool×List bV))(k:Nat):((⟨rs,none⟩:Out).take k).2=(dO k rs).2:=by
 unfold Out.take;dsimp only;split
 .next h=>rw[h]
 .next h=>rw[h]
theorem Out.abK(rs:List (Bool×List bV))(k:Nat):((⟨rs,none⟩:Out).take k).1=(match (dO k rs).1 with|[v]=>AV.sv v|vs=>.iL vs):=by
 unfold Out.take;dsimp only;split
 .next h=>rw[h]
 .next vs δ hne h=>
  rw[h];dsimp only;rcases vs with _|⟨v,_|⟨v2,r⟩⟩
  .rfl
  .exact(hne v rfl).elim
  .rfl
theorem afI{args:List Arg}{S:Nat->Prop}{sh:List fJ}{bf:List mV}{x:jb sh}(hx:lg sh args=some x){d:nR bf}{b:mg sh}{k:Nat}{vs:List SV}{us:List Value}
 (hR:Rel w (rF (bY args) γ) (KN args γ S) γ' st a w') (hrs:bG (aj w (KN args γ S) γ' st w') vs us) (hnd:qA (sV bf vs)=true) (hrd:uF st bf vs=some d) (hbk:AB st 0 sh=some b)
 (hap:∀o x,look ((⟨dY bf d,none⟩:Out).take k).2 o=some x->jO (gV sh b) o=none):
 ∃γ2,aH ⟨w',w.heap.size,lX S args (gV sh b) γ,γ2,look ((⟨dY bf d,none⟩:Out).take k).2⟩ ((⟨dY bf d,none⟩:Out).take k).1 (if h:us.toArray.size=1 then us.toArray[0]else .tuple us.toArray)/\
  (∀o x,look ((⟨dY bf d,none⟩:Out).take k).2 o=some x->aN ⟨w',w.heap.size,lX S args (gV sh b) γ,γ2,look ((⟨dY bf d,none⟩:Out).take k).2⟩ o x/\
    ∀b',blk (γ2 o)=some b'->b'<w'.heap.size/\(w.heap.size<=b'\/rF (bY args) γ b')/\∀q y,jO (gV sh b) q=some y->blk (γ q)≠some b')/\
  (∀o x q y b',look ((⟨dY bf d,none⟩:Out).take k).2 o=some x->look ((⟨dY bf d,none⟩:Out).take k).2 q=some y->o≠q->blk (γ2 o)=some b'->blk (γ2 q)≠some b')/\
  (∀o x,jO (gV sh b) o=some x->γ2 o=γ o/\aN ⟨w',w.heap.size,lX S args (gV sh b) γ,γ2,look ((⟨dY bf d,none⟩:Out).take k).2⟩ o x):=by
 rw[Out.abJ]at hap ⊢;rw[Out.abK]
 skip
 let Y:V:=aj w (KN args γ S) γ' st w'
 let fv:List Value:=us.flatMap λv=>v.cells.toList
 let aB:=gV sh b
 let γ2:Nat->Value:=λp=>match jO aB p with|some _=>γ p|none=>fv.getD (p-k) undef
 let Z:V:=⟨w',w.heap.size,lX S args aB γ,γ2,look (dO k (dY bf d)).2⟩
 have hpos:∀o e r l g,st.af o=some (.arr e r l g)->0<r.len:=λo e r l g ho=>by obtain⟨_,_,h,_⟩:=hR.af o _ ho;exact h
 have hF:wH Y (BM (dY bf d)) fv (sV bf vs):=QD (st:=st) rfl hpos bf vs d us hrd hrs;have hbq:∀q y,jO aB q=some y->γ' q=γ q/\∃cs cs0,y=.var cs/\st.af q=some (.var cs0)/\cs0.flatMap Cell.refs=[]/\cs.flatMap Cell.refs=[]/\∀(X:V) vs,ai X cs0 vs->ai X cs vs:=by
  intro q y hq;obtain⟨hm,l,cs,cs0,h1,h2,h3,h4,h5,h6⟩:=aaV hbk hq;refine⟨?_,cs,cs0,h2,h3,h4,h5,h6⟩;obtain⟨ci,hci⟩:=QE hx _ l h1;have ho:bY args q=some (.var ci):=by unfold bY;rw[hci];dsimp only;rw[hm]
  have hN:(KN args γ S).N q=some (γ q):=by show Tv args γ q=_;unfold Tv;rw[ho]
  exact hR.pin q _ _ hN h3
 have hG:∀p X,look (dO k (dY bf d)).2 p=some X->∃i e r l fr,p=k+i/\(BM (dY bf d))[i]? =some (.own e r l fr)/\X=.arr e r l fr/\0<r.len/\
  ((∃o g,(sV bf vs)[i]? =some (some o)/\st.af o=some (.arr e r l g)/\Du fr g=true/\γ2 p=γ' o/\(γ2 p).oneCell'=true)\/(l=[]/\γ2 p=.slice none 0 0)):=by
  intro p X hp;obtain⟨i,e,r,l,fr,h1,h2,h3⟩:=(sH _ k p X).1 hp;obtain⟨v,n,g1,g2,hr,hv⟩:=wH.get _ _ _ i _ hF h2;have hγ:γ2 p=v:=by show(match jO aB p with|some _=>γ p|none=>fv.getD (p-k) undef)=v;rw[hap p X hp];dsimp only;rw[h1,show k+i-k=i by omega,ahv,g1];rfl
  refine⟨i,e,r,l,fr,h1,h2,h3,hr,?_⟩;rcases hv with⟨o,g,hn,ho,hb,hv,h1c⟩|⟨hl,hv⟩
  .exact .inl ⟨o,g,by rw[g2,hn],ho,hb,hγ.trans hv,by rw[hγ];exact h1c⟩
  .exact .inr ⟨hl,hγ.trans hv⟩
 have Ig:∀b',Y.foot b'->Z.foot b':=by
  intro b' hb';refine⟨hb'.1,λhlt=>⟨hb'.2.1 hlt,λq y hq=>?_⟩,λp X hp=>?_⟩
  .obtain⟨hγ,cs,cs0,_,h3,_⟩:=hbq q y hq;rw[← hγ];exact hb'.2.2 q _ h3
  .obtain⟨i,e,r,l,fr,_,_,_,_,hc⟩:=hG p X hp;show blk (γ2 p)≠some b';rcases hc with⟨o,g,_,ho,_,hγ,_⟩|⟨_,hγ⟩
   .rw[hγ];exact hb'.2.2 o _ ho
   .rw[hγ];intro h;cases h
 have aaW:∀fr b',Y.aX fr b'->Z.aX fr b':=λfr b' h=>⟨Ig b' h.1,h.2⟩;have hgo:zD Z k (BM (dY bf d)) fv:=by
  refine zD.of _ _ _ (wH.length _ _ _ hF) λi c v hc hv=>?_;obtain⟨v',n,g1,g2,g3⟩:=wH.get _ _ _ i c hF hc;rw[hv]at g1;cases g1;cases c with
  |plain x=>
   exact(xE (Y:=Y) (Z:=Z) rfl aaW [x] [v] (by simpa using g3.2) ⟨g3.1,trivial⟩).1
  |own e r l fr=>
   have hp:look (dO k (dY bf d)).2 (k+i)=some (.arr e r l fr):=(sH _ k _ _).2 ⟨i,e,r,l,fr,rfl,hc,rfl⟩;have hγ:γ2 (k+i)=v:=by show(match jO aB (k+i)with|some _=>γ (k+i)|none=>fv.getD (k+i-k) undef)=v;rw[hap _ _ hp];dsimp only;rw[show k+i-k=i by omega,ahv,hv];rfl
   refine⟨⟨e,r,l,fr,hp⟩,hγ.symm,?_⟩;rcases g3.2 with⟨_,_,_,_,_,_,h⟩|⟨_,h⟩
   .exact h
   .rw[h];rfl
 have hsv:bG Z (dO k (dY bf d)).1 us:=U1 (st:=st) (Y:=Y) rfl hpos bf vs d us k hrd hrs hgo;refine⟨γ2,?_,λp X hp=>?_,λp X q X' b' hp hq hne hb1 hb2=>?_,λq y hq=>?_⟩
 .have hl:=bG.length _ _ hsv
  match hm:(dO k (dY bf d)).1,us,hsv,hl with
  |[v],[u],hk,_=>exact hk.1
  |[],[],hk,_=>exact⟨_,by simp,hk⟩
  |v::v2::r,u::u2::us,hk,hl=>exact⟨_,by simp,hk⟩
  |[],_::_,hk,h4|_::_,[],hk,h4|[_],_::_::_,hk,h4|_::_::_,[_],hk,h4=>simp at h4
 .obtain⟨i,e,r,l,fr,_,_,rfl,hr,hc⟩:=hG p X hp;rcases hc with⟨o,g,_,ho,hb,hγ,_⟩|⟨rfl,hγ⟩
  .have hO:aN Y o (.arr e r l g):=hR.af o _ ho;have hold:∀b',blk (γ' o)=some b'->fr=true->w.heap.size<=b':=by intro b' hb' hfr;subst hfr;have hg:g=true:=hb;subst hg;obtain⟨_,_,_,hn,_⟩:=hO;exact hn b' hb' rfl
   refine⟨aN.MP (Y:=Y) (Z:=Z) hO hγ rfl (λb' hb'=>⟨Ig b' hb'.1,λhfr=>hb'.2 ?_⟩) hold,λb' hb'=>?_⟩
   .subst hfr;exact hb
   .rw[hγ]at hb';obtain⟨h1,h2⟩:=hR.lt o _ b' ho hb';refine⟨h1,h2,λq y hq=>?_⟩;obtain⟨hγq,cs,cs0,_,h3,_⟩:=hbq q y hq;rw[← hγq];refine hR.sep o _ q _ b' ho h3 ?_ hb';intro e;subst e;rw[ho]at h3;cases h3
  .refine⟨⟨[],⟨by simp,.inl ⟨hγ,rfl⟩⟩,hr,(λb' hb'=>by have h0:blk (γ2 p)=some b':=hb';rw[hγ]at h0;cases h0),λi x hi=>by simp at hi⟩,λb' hb'=>by rw[hγ]at hb';cases hb'⟩
 .obtain⟨i,e,r,l,fr,hi,_,_,_,hc⟩:=hG p X hp;obtain⟨j,e',r',l',fr',hj,_,_,_,hc'⟩:=hG q X' hq;rcases hc with⟨o,g,hn,ho,_,hγ,_⟩|⟨_,hγ⟩
  .rcases hc' with⟨o',g',hn',ho',_,FZ,_⟩|⟨_,FZ⟩
   .rw[hγ]at hb1;rw[FZ]at hb2;have:o≠o':=by intro e;subst e;have:=E5 hnd _ _ _ hn hn';omega
    exact hR.sep o _ o' _ b' ho ho' this hb1 hb2
   .rw[FZ]at hb2;cases hb2
  .rw[hγ]at hb1;cases hb1
 .obtain⟨hγ,cs,cs0,rfl,h3,h4,h5,h6⟩:=hbq q y hq;have iP:γ2 q=γ q:=by show(match jO aB q with|some _=>γ q|none=>fv.getD (q-k) undef)=γ q;rw[hq]
  refine⟨iP,?_⟩;obtain⟨b',arr,t,k1,k2,k3⟩:=hR.af q _ h3;refine⟨b',arr,t,?_,k2,xE (Y:=Y) (Z:=Z) rfl aaW _ _ h5 (h6 _ _ k3)⟩;show γ2 q=_;rw[iP,← hγ];exact k1
theorem Y0{G:fG}(hE:EnvB P G Θ Γ)(hm:P.follows .mixedOrders=true){f:FuncId}{fn:Func}{c:Code}(hf:P.funcs[f]? =some fn)(hb:fn.body=some c)(H:Hints)
 {sh:List fJ} {bf:List mV} {F:jb sh->Prop×(nR bf×mg sh->Prop)} (hn:Nat.ble sh.length fn.ntmps=true) (hne:∀x,(F x).1->∃t,(F x).2 t)
 (hwalk:∀x,BO sh x->(F x).1->yQ Θ Γ H c (VX Θ fn.results.toList sh bf (F x).2) (wG fn.ntmps (lY sh x))):oO P G f (zL sh bf F):=by
 intro args p ρ hcon hp;unfold zL at hcon;split at hcon
 case h_2=>cases hcon
 next x hx=>
 cases hcon;refine⟨hne x hp,λk S γ vs w hG hrep kW hsep hap=>?_⟩;have hlen:=(BL hx).1;rw[Bd]at hlen;have hn':args.length<=fn.ntmps:=by rw[← hlen];simpa[ajl]using hn
 have hin:BO sh x:=KO (λo X ho=>(kW o X ho).1) sh args x vs.toList 0 (λj a h=>by rwa [ahN]) hx hrep;have hR0:=QB (S:=S) fn.ntmps hn' hrep (λo X ho=>⟨(kW o X ho).1,λb hb=>((kW o X ho).2 b hb).1⟩) hsep;have hR1:=hR0.covers (Jr hx fn.ntmps);refine calls_of_wp hf hb (KL ⟨hE,hG,λb hb=>?_⟩ hm H c _ _ _ _ _ _ hR1 (hwalk x hin hp) ?_)
 .obtain⟨o,X,ho,hb⟩:=hb;exact((kW o X ho).2 b hb).2
 intro e s γ' a' w' he hR;have hret:∃(us:List Value)(t:nR bf×mg sh),(fn.results.mapM (Aw a'.tmps)).run P w'=.ok us.toArray w'/\(F x).2 t/\∃γ2,
  aH ⟨w',w.heap.size,lX S args (gV sh t.2) γ,γ2,look ((⟨dY bf t.1,none⟩:Out).take k).2⟩ ((⟨dY bf t.1,none⟩:Out).take k).1 (if h:us.toArray.size=1 then us.toArray[0]else .tuple us.toArray)/\
  (∀o x',look ((⟨dY bf t.1,none⟩:Out).take k).2 o=some x'->aN ⟨w',w.heap.size,lX S args (gV sh t.2) γ,γ2,look ((⟨dY bf t.1,none⟩:Out).take k).2⟩ o x'/\
    ∀b,blk (γ2 o)=some b->b<w'.heap.size/\(w.heap.size<=b\/rF (bY args) γ b)/\∀q y,jO (gV sh t.2) q=some y->blk (γ q)≠some b)/\
  (∀o x' q y b,look ((⟨dY bf t.1,none⟩:Out).take k).2 o=some x'->look ((⟨dY bf t.1,none⟩:Out).take k).2 q=some y->o≠q->blk (γ2 o)=some b->blk (γ2 q)≠some b)/\
  (∀o x',jO (gV sh t.2) o=some x'->γ2 o=γ o/\aN ⟨w',w.heap.size,lX S args (gV sh t.2) γ,γ2,look ((⟨dY bf t.1,none⟩:Out).take k).2⟩ o x'):=by
  have he':(e=.normal\/e=.ret)/\VX Θ fn.results.toList sh bf (F x).2 .ret s:=by
   cases e with
   |normal=>exact⟨.inl rfl,he⟩
   |ret=>exact⟨.inr rfl,he⟩
   |_=>exact he.elim
  have he2:=he'.2;simp only[VX]at he2;split at he2
  .next Xa ahd=>
   split at he2
   .next vs' hvs'=>
    split at he2
    .next d b hnd hd hb'=>have UZ:=hR.freeze (Qz s (sV bf Xa));obtain⟨us,hus,hrs⟩:=Dw hE.types UZ _ _ hvs';refine⟨us,(d,b),?_,he2,afI hx UZ hrs hnd hd hb' (hap (d,b) he2)⟩;rw[ajs,Sem.run_map,hus];rfl
    .exact he2.elim
   .exact he2.elim
  .exact he2.elim
 obtain⟨us,t,hus,ht,γ2,h1,h2,h3,h4⟩:=hret;have hfin:bodyPost P fn (λe w'=>∃t,(F x).2 t/\Ib S args γ w k ⟨dY bf t.1,none⟩ (gV sh t.2) e w') .ret a' w':=by refine⟨hR.defers,if h:us.toArray.size=1 then us.toArray[0]else .tuple us.toArray,?_,t,ht,_,γ2,rfl,hR.os,hR.tape,hR.output,hR.grow,hR.kept,h1,h2,h3,h4⟩;rw[Io,ahD,hus];simp only[ah8,aik]
 cases e with
 |normal=>exact hfin
 |ret=>exact hfin
 |_=>exact he.elim
def VY(rv:List ResultVar)(l:List dG)(K:iD l->Prop)(e:Exit)(st:St):Prop:=
 match e with
 |.normal|.ret=>match rv with
  |[.tmp t]=>match st.tmps t with
   |.cu o off=>match Nat.beq off 0,(st.freeze (EC st)).af o with
    |true,some (.var cs)=>match cs.flatMap Cell.refs,fC l cs with
     |[],some d=>K d
     |_,_=>False
    |_,_=>False
   |_=>False
  |_=>False
 |_=>False
def loses(sh:List fJ):List Eff:=sh.map λ_=>.lose
def abL(sh:List fJ)(l:List dG)(F:jb sh->Prop×(iD l->Prop)):Hy:=λargs=>
 match lg sh args with
 |some x=>some ((F x).1,⟨iD l,(F x).2,λt=>⟨[],some (dJ l t)⟩,λ_=>loses sh⟩)
 |none=>none
theorem Ip(sh:List fJ)(q:Nat):jO (loses sh) q=none:=by unfold jO loses;rw[ait];cases sh[q / 64]? <;>rfl
theorem Gh:∀(l:List dG)(cs:List Cell)(d:iD l),fC l cs=some d->cs.flatMap Cell.refs=[]->(dJ l d).flatMap Cell.refs=[]
 |[],[],_,_,_=>rfl
 |c::l,x::xs,d,h,hn=>by
  rw[fC]at h;rw[aip,ah7]at hn;split at h
  .next p q hp hq=>
   cases h;show((c.cell p)::dJ l q).flatMap Cell.refs=[];rw[aip,ah7];refine⟨?_,Gh l xs q hq hn.2⟩;cases c with
   |ref o=>
    cases x<;>simp[dG.read,Cell.refs]at hp hn
   |_=>rfl
  .cases h
 |[],_::_,_,h,_=>by simp[fC]at h
 |_::_,[],_,h,_=>by simp[fC]at h
theorem ade{G:fG}(hE:EnvB P G Θ Γ)(hm:P.follows .mixedOrders=true){f:FuncId}{fn:Func}{c:Code}(hf:P.funcs[f]? =some fn)(hb:fn.body=some c)(H:Hints)
 {sh:List fJ} {l:List dG} {F:jb sh->Prop×(iD l->Prop)} (hn:Nat.ble sh.length fn.ntmps=true) (hne:∀x,(F x).1->∃t,(F x).2 t)
 (hwalk:∀x,BO sh x->(F x).1->yQ Θ Γ H c (VY fn.results.toList l (F x).2) (wG fn.ntmps (lY sh x))):oO P G f (abL sh l F):=by
 intro args p ρ hcon hp;unfold abL at hcon;split at hcon
 case h_2=>cases hcon
 next x hx=>
 cases hcon;refine⟨hne x hp,λk S γ vs w hG hrep kW hsep hap=>?_⟩;have hlen:=(BL hx).1;rw[Bd]at hlen;have hn':args.length<=fn.ntmps:=by rw[← hlen];simpa[ajl]using hn
 have hin:BO sh x:=KO (λo X ho=>(kW o X ho).1) sh args x vs.toList 0 (λj a h=>by rwa [ahN]) hx hrep;have hR0:=QB (S:=S) fn.ntmps hn' hrep (λo X ho=>⟨(kW o X ho).1,λb hb=>((kW o X ho).2 b hb).1⟩) hsep;have hR1:=hR0.covers (Jr hx fn.ntmps);refine calls_of_wp hf hb (KL ⟨hE,hG,λb hb=>?_⟩ hm H c _ _ _ _ _ _ hR1 (hwalk x hin hp) ?_)
 .obtain⟨o,X,ho,hb⟩:=hb;exact((kW o X ho).2 b hb).2
 intro e s γ' a' w' he hR;have he':VY fn.results.toList l (F x).2 .ret s:=by
  cases e with
  |normal=>exact he
  |ret=>exact he
  |_=>exact he.elim
 have hfin:bodyPost P fn (λe w'=>∃t,(F x).2 t/\Ib S args γ w k ⟨[],some (dJ l t)⟩ (loses sh) e w') .ret a' w':=by
  simp only[VY]at he';split at he'
  case h_2=>exact he'.elim
  next t hrv=>
  split at he'
  case h_2=>exact he'.elim
  next o off Qp=>
  split at he'
  case h_2=>exact he'.elim
  next cs hoff hcs=>
  split at he'
  case h_2=>exact he'.elim
  next d hnr hd=>
  have hoff:=ahs hoff;subst hoff;have UZ:=hR.freeze (EC s);have hv:=hR.tmps t;rw[Qp]at hv;obtain⟨b,cs0,_,hγ,hval⟩:=hv;obtain⟨b',arr,ty,g1,g2,g3⟩:=UZ.af o _ hcs;have g1:γ' o=.pointer (some ⟨b',0,none⟩):=g1;have hγ:γ' o=.pointer (some ⟨b,0,none⟩):=hγ;rw[hγ]at g1;cases g1;have hblk:blk (γ' o)=some b:=by rw[hγ];rfl
  have hlt:=UZ.lt o _ b hcs hblk
  let γ2:Nat->Value:=λ_=>γ' o
  let Z:V:=⟨w',w.heap.size,lX S args (loses sh) γ,γ2,look (Out.take k ⟨[],some (dJ l d)⟩).2⟩
  have hlook:∀q y,look (Out.take k ⟨[],some (dJ l d)⟩).2 q=some y->q=k-1/\y=.var (dJ l d):=by
   intro q y hq;have hmem:=pF _ q y hq;have:(q,y)=(k-1,.var (dJ l d)):=by simpa[Out.take]using hmem
   exact⟨congrArg Prod.fst this,congrArg Prod.snd this⟩
  have Ig:∀fr b',(aj w (KN args γ S) γ' (s.freeze (EC s)) w').aX fr b'->Z.aX fr b':=by intro fr b' hb';refine⟨⟨hb'.1.1,λhlt'=>⟨hb'.1.2.1 hlt',λq y hq=>by rw[Ip]at hq;cases hq⟩,λq y hq=>?_⟩,hb'.2⟩;exact hb'.1.2.2 o _ hcs
  have hcells:ai Z (dJ l d) arr.toList:=
   xE (Y:=aj w (KN args γ S) γ' (s.freeze (EC s)) w') (Z:=Z) rfl Ig _ _ (Gh l cs d hd hnr) (wE l cs d _ hd g3)
  have hself:look (Out.take k ⟨[],some (dJ l d)⟩).2 (k-1)=some (.var (dJ l d)):=by simp[Out.take,look]
  refine⟨hR.defers,a'.tmps.getD t undef,?_,d,he',_,γ2,rfl,hR.os,hR.tape,hR.output,hR.grow,hR.kept,?_,λq y hq=>?_,λq y q' y' b' hq hq' hne'=>?_,λq y hq=>by rw[Ip]at hq;cases hq⟩
  .have:fn.results=#[.tmp t]:=by apply aiL;simpa using hrv
   have hmap:(Array.mapM (Aw a'.tmps) #[ResultVar.tmp t]).run P w'=.ok #[a'.tmps.getD t undef] w':=by rw[ajs,Sem.run_map];simp only[akh,List.mapM_nil,Aw];rfl
   rw[Io,this,ahD,hmap];rfl
  .exact⟨b,dJ l d,hself,hγ,hval⟩
  .obtain⟨rfl,rfl⟩:=hlook q y hq;refine⟨⟨b,arr,ty,hγ,g2,hcells⟩,λb' hb'=>?_⟩;have hb':blk (γ' o)=some b':=hb';rw[hblk]at hb';cases hb';exact⟨hlt.1,hlt.2,λq y hq=>by rw[Ip]at hq;cases hq⟩
  .obtain⟨rfl,_⟩:=hlook q y hq;obtain⟨rfl,_⟩:=hlook q' y' hq';exact(hne' rfl).elim
 cases e with
 |normal=>exact hfin
 |ret=>exact hfin
 |_=>exact he.elim
end Go.Fw
namespace Go.Fw
open Go
def CT.isZero:CT->Value->Bool
 |.int k,.int l n=>decide (k=l)&&decide (n=0)
 |.bool,.bool b=>!b
 |.str,.string s=>s.data.toList.isEmpty
 |.sl _ _,.slice none 0 0=>true
 |_,_=>false
def ak.Gi:ak->List Value->Bool
 |.nil,[]=>true
 |.cons c r,v::vs=>c.isZero v&&r.Gi vs
 |_,_=>false
theorem CT.aaX:∀(c:CT)(v:Value),c.isZero v=true->v=c.Tc:=by
 intro c v h;unfold CT.isZero at h;split at h
 .simp at h;rw[h.1,h.2];rfl
 .simp at h;subst h;rfl
 .next s=>obtain⟨⟨l⟩⟩:=s;simp at h;subst h;rfl
 .rfl
 .cases h
theorem ak.QF:∀(r:ak)(vs:List Value),r.Gi vs=true->vs=r.gq
 |.nil,[],_=>rfl
 |.cons c r,v::vs,h=>by
  rw[Gi,ahq]at h;rw[ak.gq,CT.aaX c v h.1,ak.QF r vs h.2]
 |.nil,_::_,h|.cons _ _,[],h=>by simp[Gi]at h
def Xc:TypeDesc->TypeDesc->Bool
 |.int k,.int l=>decide (k=l)
 |.bool,.bool=>true
 |.string,.string=>true
 |.slice e,.slice f=>Nat.beq e f
 |_,_=>false
theorem aaY:∀(c d:TypeDesc),Xc c d=true->c=d:=by
 intro c d h;unfold Xc at h;split at h
 .rw[aio h]
 .rfl
 .rfl
 .rw[ahs h]
 .cases h
def Dx(P:Program):List (Nat×TypeId)->List Field->Bool
 |[],[]=>true
 |(o,t)::r,f::fs=>Nat.beq o f.offset&&Nat.beq t f.type&&(P.info? f.type).isSome&&Dx P r fs
 |_,_=>false
theorem Ol{P:Program}:∀(l:List (Nat×TypeId))(fs:List Field),Dx P l fs=true->l=fs.map (λf=>(f.offset,f.type))/\∀f∈fs,(P.info? f.type).isSome=true
 |[],[],_=>⟨rfl,by simp⟩
 |(o,t)::r,f::fs,h=>by
  rw[Dx,ahq,ahq,ahq]at h;obtain⟨⟨⟨h1,h2⟩,h3⟩,h4⟩:=h;obtain⟨e,hall⟩:=Ol r fs h4;refine⟨by rw[ahE,← e,ahs h1,ahs h2],λg hg=>?_⟩;rcases ahV.1 hg with rfl|hg
  .exact h3
  .exact hall g hg
 |[],_::_,h|_::_,[],h=>by simp[Dx]at h
def aaZ(P:Program)(t:TypeId)(ti:TI):Bool:=
 match ti.kind,P.underlying t with
 |.scalar,some d=>match ti.cells.desc with|some c=>Xc c d|none=>false
 |.str,some .string=>ti.cells.beq (.cons .str .nil)
 |.slice e,some (.slice f)=>Nat.beq e f&&(match ti.cells with|.cons (.sl g _) .nil=>Nat.beq g e|_=>false)
 |.struct fs,some (.struct qB)=>Dx P fs qB.toList
 |_,_=>false
def Y3(ti:TI)(z:Value):Bool:=match ti.kind with
 |.struct _=>true
 |_=>z.oneCell'
def Tz(P:Program)(t:TypeId)(ti:TI):Bool:=
 match P.info? t with
 |some i=>match i.zero with
  |some z=>Nat.beq i.size ti.cells.len&&Nat.beq i.bytes ti.bytes&&ti.cells.Gi z.cells.toList&&Y3 ti z&&aaZ P t ti&&Nat.ble ti.bytes 4096&&(!ti.cmp||Zv P t ti.cells)
  |none=>false
 |none=>false
theorem ig.abM{P:Program}{t:TypeId}{ti:TI}(h:Tz P t ti=true):ig P t ti:=by
 unfold Tz at h;split at h
 .next i hi=>
  split at h
  .next z hz=>
   simp only[ahq]at h;obtain⟨⟨⟨⟨⟨⟨h1,h2⟩,h3⟩,h4⟩,h5⟩,h6⟩,h7⟩:=h;refine⟨⟨i,z,hi,ahs h1,ahs h2,hz,ak.QF _ _ h3,λhagg=>?_⟩,?_,by simpa[ajl]using h6,λe w s u X xs ys vs us b hf hx hy he=>ac6 (by rw[e]at h7;simpa using h7) w s u X xs ys vs us b hf hx hy he⟩
   .unfold Y3 at h4;unfold TI.agg at hagg;split at h4
    .next hk=>rw[hk]at hagg;cases hagg
    .exact yI z h4
   .unfold aaZ at h5;split at h5
    .next d hk hu=>
     rw[hk];split at h5
     .next c hc=>exact⟨d,by rw[hc,aaY c d h5],hu⟩
     .cases h5
    .next hk hu=>rw[hk];exact⟨hu,ak.eq_of_beq _ _ h5⟩
    .next e f hk hu=>
     rw[hk];rw[ahq]at h5;have hef:=ahs h5.1;subst hef;refine⟨hu,?_⟩;have h52:=h5.2;split at h52
     .next g r hg=>exact⟨r,by rw[hg,ahs h52]⟩
     .cases h52
    .next fs qB hk hu=>rw[hk];obtain⟨e,hall⟩:=Ol _ _ h5;exact⟨qB,hu,e,hall⟩
    .cases h5
  .cases h
 .cases h
def Gj(P:Program):List (Nat×TI)->Bool
 |[]=>true
 |(t,ti)::r=>Tz P t ti&&Gj P r
theorem Xd{P:Program}:∀{l:List (Nat×TI)},Gj P l=true->∀t ti,Qw l t=some ti->ig P t ti
 |[],_,t,ti,h=>by cases h
 |(i,x)::r,hc,t,ti,h=>by
  rw[Gj,ahq]at hc;rw[Qw]at h;cases hb:Nat.beq t i with
  |true=>rw[hb]at h;cases h;rw[ahs hb];exact .abM hc.1
  |false=>rw[hb]at h;exact Xd hc.2 t ti h
def MW(fn:Func):Bool:=fn.body.isSome&&!(fn.name== "runtime.NumGoroutine")
theorem fU{P:Program}{f:FuncId}{fn:Func}(hf:P.funcs[f]? =some fn)(hc:MW fn=true):fH P f:=by
 intro args w;unfold MW at hc;rw[ahq]at hc;have h1:(fn.name== "runtime.NumGoroutine")=false:=by simpa using hc.2
 have h2:fn.body.isNone=false:=by cases hb:fn.body with|none=>rw[hb]at hc;simp at hc|some _=>rfl
 unfold callFunc;simp only[ahD,run_program,ah8,hf,h1,h2,aiN,ajk,aik]
def aa0(P:Program)(G:fG)(f:FuncId):Ba->Prop
 |.pure c=>gy P G f c/\fH P f
 |.eff _ c=>oO P G f c/\fH P f
theorem aa1{P:Program}{G:fG}{Θ:dZ}(hT:∀t ti,Θ t=some ti->ig P t ti):∀{l:List (Nat×Ba)},(∀x∈l,aa0 P G x.1 x.2)->EnvB P G Θ (BD l)
 |[],_=>⟨hT,(λf con h=>by cases h),(λf ms con h=>by cases h)⟩
 |(i,c)::r,h=>by
  have ih:=aa1 (G:=G) hT λx hx=>h x (ahG _ hx);refine⟨hT,λf con hf=>?_,λf ms con hf=>?_⟩
  .rw[BD]at hf;cases hb:Nat.beq f i with
   |true=>rw[hb]at hf;cases hf;rw[ahs hb];exact h (i,.pure con) ahF
   |false=>rw[hb]at hf;exact ih.cons f con hf
  .rw[BD]at hf;cases hb:Nat.beq f i with
   |true=>rw[hb]at hf;cases hf;rw[ahs hb];exact h (i,.eff ms con) ahF
   |false=>rw[hb]at hf;exact ih.VU f ms con hf
end Go.Fw
namespace Go.Fw
open Go
structure PA where
 n:Nat
 sh:List dV
 bf:List jV
 F:eY sh->Prop×jD bf
structure XA where
 n:Nat
 sh:List fJ
 bf:List mV
 F:jb sh->Prop×(nR bf×mg sh->Prop)
structure QA where
 n:Nat
 sh:List fJ
 bf:List dG
 F:jb sh->Prop×(iD bf->Prop)
def PA.e(q:PA):Nat×Ba:=(q.n,.pure (iY q.sh q.bf q.F))
def XA.e(q:XA):Nat×Ba:=(q.n,.eff (J4 q.sh) (zL q.sh q.bf q.F))
def QA.e(q:QA):Nat×Ba:=(q.n,.eff (J4 q.sh) (abL q.sh q.bf q.F))
def QG(P:Program)(G:fG)(x:Nat×Ba):Prop:=aa0 P G x.1 x.2
def Xe(P:Program)(G:fG):List (Nat×Ba)->Prop
 |[]=>True
 |x::l=>QG P G x/\Xe P G l
theorem abN{P:Program}{G:fG}{l':List (Nat×TI)}(hT:Gj P l'=true){l:List (Nat×Ba)}(h:Xe P G l):EnvB P G (Qw l') (BD l):=
 aa1 (Xd hT) (by
  induction l with
  |nil=>exactλx hx=>by cases hx
  |cons y l ih=>exact List.forall_mem_cons.2 ⟨h.1,ih h.2⟩)
def TA:(l:List dG)->(iD l->Prop)->Prop
 |[],p=>p ()
 |c::r,p=>∀x:c.den,TA r λy=>p (x,y)
theorem Gl:∀{l:List dG}{p:iD l->Prop},TA l p->∀x,p x
 |[],_,h,()=>h
 |_::_,_,h,(x,y)=>Gl (h x) y
def ZQ:(l:List (List dG))->(sU l->Prop)->Prop
 |[],p=>p ()
 |c::r,p=>TA c λx=>ZQ r λy=>p (x,y)
theorem Xf:∀{l:List (List dG)}{p:sU l->Prop},ZQ l p->∀x,p x
 |[],_,h,()=>h
 |_::_,_,h,(x,y)=>Xf (Gl h x) y
def abO:(s:dV)->(s.den->Prop)->Prop
 |.v (.one c),p=>∀x:c.den,p x
 |.v (.agg l),p=>TA l p
 |.kp l,p=>TA l p
 |.fn _ l,p=>ZQ l p
theorem Y4:∀{s:dV}{p:s.den->Prop},abO s p->∀x,p x
 |.v (.one _),_,h,x=>h x
 |.v (.agg _),_,h,x=>Gl h x
 |.kp _,_,h,x=>Gl h x
 |.fn _ _,_,h,x=>Xf h x
def ZR:(l:List dV)->(eY l->Prop)->Prop
 |[],p=>p ()
 |s::r,p=>abO s λx=>ZR r λy=>p (x,y)
theorem Xg:∀{l:List dV}{p:eY l->Prop},ZR l p->∀x,p x
 |[],_,h,()=>h
 |_::_,_,h,(x,y)=>Xg (Y4 h x) y
def adP:(s:fJ)->(s.den->Prop)->Prop
 |.p s,p=>abO s p
 |.own _ r,p=>∀x:List r.den,p x
 |.ptr l,p=>TA l p
theorem adf:∀{s:fJ}{p:s.den->Prop},adP s p->∀x,p x
 |.p _,_,h,x=>Y4 h x
 |.own _ _,_,h,x=>h x
 |.ptr _,_,h,x=>Gl h x
def VZ:(l:List fJ)->(jb l->Prop)->Prop
 |[],p=>p ()
 |s::r,p=>adP s λx=>VZ r λy=>p (x,y)
theorem Pn:∀{l:List fJ}{p:jb l->Prop},VZ l p->∀x,p x
 |[],_,h,()=>h
 |_::_,_,h,(x,y)=>Pn (adf h x) y
abbrev LP{α:Type}(x:α)(f:(α->Prop)->(α->Nat)->α->Prop):Prop:=∃(I:α->Prop),∃(μ:α->Nat),I x/\∀(y:α),I y->f I μ y
abbrev NX{σ α:Type}(s:σ)(I:α->Prop)(μ:α->Nat)(x y:α):Prop:=s=s/\I x/\μ x<μ y
def H0:Hints:=hints [] [] [] [] []
def tC(P:Program)(n:Nat):Func:=match P.funcs[n]? with|some f=>f|none=>default
def AL(P:Program)(n k:Nat):Bool:=P.funcs[n]?.isSome&&MW (tC P n)&&Nat.ble k (tC P n).ntmps
theorem KP{P:Program}{n k:Nat}(h:AL P n k=true):P.funcs[n]? =some (tC P n)/\(tC P n).body=some (codeOf (tC P n))/\fH P n/\Nat.ble k (tC P n).ntmps=true:=by
 simp only[AL,ahq]at h;obtain⟨⟨h1,h2⟩,h3⟩:=h;have e:P.funcs[n]? =some (tC P n):=by
  unfold tC;cases hf:P.funcs[n]? with
  |some f=>rfl
  |none=>rw[hf]at h1;cases h1
 refine⟨e,?_,fU e h2,h3⟩;have h4:=h2;unfold MW at h4;rw[ahq]at h4;unfold codeOf;cases hb:(tC P n).body with
 |some c=>rfl
 |none=>rw[hb]at h4;cases h4.1
def PA.goal(q:PA)(g:(jD q.bf->Prop)->Prop)(x:eY q.sh):Prop:=BK q.sh x->(q.F x).1->g λr=>r=(q.F x).2
def XA.goal(q:XA)(g:(nR q.bf×mg q.sh->Prop)->Prop)(x:jb q.sh):Prop:=BO q.sh x->(q.F x).1->g (q.F x).2
def QA.goal(q:QA)(g:(iD q.bf->Prop)->Prop)(x:jb q.sh):Prop:=BO q.sh x->(q.F x).1->g (q.F x).2
variable {P:Program} {Θ:dZ} {Γ:gG} {G:fG}
theorem PA.ok{q:PA}(hm:P.follows .mixedOrders=true)(hE:EnvB P G Θ Γ)(H:Hints){p:Prop}
 (hp:(bif AL P q.n q.sh.length then ZR q.sh λx=>q.goal (λK=>yQ Θ Γ H (codeOf (tC P q.n)) (Qx Θ (tC P q.n).results.toList q.bf K) (entry (tC P q.n).ntmps (nG q.sh x))) x else False)=p) (h:p):QG P G q.e:=by
 subst hp;cases hc:AL P q.n q.sh.length with
 |false=>rw[hc]at h;exact h.elim
 |true=>rw[hc]at h;obtain⟨h1,h2,h3,h4⟩:=KP hc;exact⟨Tn hE hm h1 h2 H h4 λx hi hx=>Xg h x hi hx,h3⟩
theorem XA.ok{q:XA}(hm:P.follows .mixedOrders=true)(hE:EnvB P G Θ Γ)(H:Hints)(hne:∀x,(q.F x).1->∃t,(q.F x).2 t){p:Prop}
 (hp:(bif AL P q.n q.sh.length then VZ q.sh λx=>q.goal (λK=>yQ Θ Γ H (codeOf (tC P q.n)) (VX Θ (tC P q.n).results.toList q.sh q.bf K) (wG (tC P q.n).ntmps (lY q.sh x))) x else False)=p) (h:p):QG P G q.e:=by
 subst hp;cases hc:AL P q.n q.sh.length with
 |false=>rw[hc]at h;exact h.elim
 |true=>rw[hc]at h;obtain⟨h1,h2,h3,h4⟩:=KP hc;exact⟨Y0 hE hm h1 h2 H h4 hne λx hi hx=>Pn h x hi hx,h3⟩
theorem QA.ok{q:QA}(hm:P.follows .mixedOrders=true)(hE:EnvB P G Θ Γ)(H:Hints)(hne:∀x,(q.F x).1->∃t,(q.F x).2 t){p:Prop}
 (hp:(bif AL P q.n q.sh.length then VZ q.sh λx=>q.goal (λK=>yQ Θ Γ H (codeOf (tC P q.n)) (VY (tC P q.n).results.toList q.bf K) (wG (tC P q.n).ntmps (lY q.sh x))) x else False)=p) (h:p):QG P G q.e:=by
 subst hp;cases hc:AL P q.n q.sh.length with
 |false=>rw[hc]at h;exact h.elim
 |true=>rw[hc]at h;obtain⟨h1,h2,h3,h4⟩:=KP hc;exact⟨ade hE hm h1 h2 H h4 hne λx hi hx=>Pn h x hi hx,h3⟩
end Go.Fw
namespace Go.Fw
open Go
variable {P:Program} {G:fG} {f:FuncId}
abbrev qF:List UInt8:=[]
theorem aa2{sh:List dV}{bf:List jV}{F:eY sh->Prop×jD bf}(Fr Fs:Nat->eY sh->Prop×jD bf)(h0:∀x,¬(Fr 0 x).1)(hs:∀n x,Fr (n+1) x=Fs n x)
 (hf:∀x,(F x).1->∃n,(Fr n x).1) (he:∀n x,(Fr n x).2=(F x).2) (step:∀n,gy P G f (iY sh bf (Fr n))->gy P G f (iY sh bf (Fs n))):gy P G f (iY sh bf F):=by
 have all:∀n,gy P G f (iY sh bf (Fr n)):=by
  intro n
  induction n with
  |zero=>
   intro args p out k S vs w hcon hp;unfold iY rJ at hcon;split at hcon
   .next x _=>have e:(Fr 0 x).1=p:=congrArg Prod.fst (Option.some.inj hcon);exact absurd (e.symm▸hp) (h0 x)
   .cases hcon
  |succ n ih=>have:=step n ih;have e:Fr (n+1)=Fs n:=funext (hs n);rw[e];exact this
 intro args p out k S vs w hcon hp hG hrep;have BP:=hcon;unfold iY rJ at BP;split at BP
 .next x hx=>have e:=Option.some.inj BP;have e1:(F x).1=p:=congrArg Prod.fst e;obtain⟨n,hn⟩:=hf x (e1.symm▸hp);refine all n args (Fr n x).1 out k S vs w ?_ hn hG hrep;unfold iY rJ;rw[hx];show some ((Fr n x).1,_)=_;rw[he n x];exact congrArg (λz=>some ((Fr n x).1,z)) (congrArg Prod.snd e)
 .cases BP
theorem adg{sh:List fJ}{bf:List mV}{F:jb sh->Prop×(nR bf×mg sh->Prop)}(Fr Fs:Nat->jb sh->Prop×(nR bf×mg sh->Prop))(h0:∀x,¬(Fr 0 x).1)(hs:∀n x,Fr (n+1) x=Fs n x)
 (hf:∀x,(F x).1->∃n,(Fr n x).1) (he:∀n x,(Fr n x).2=(F x).2) (step:∀n,oO P G f (zL sh bf (Fr n))->oO P G f (zL sh bf (Fs n))):oO P G f (zL sh bf F):=by
 have all:∀n,oO P G f (zL sh bf (Fr n)):=by
  intro n
  induction n with
  |zero=>
   intro args p ρ hcon hp;unfold zL at hcon;split at hcon
   .next x _=>have e:(Fr 0 x).1=p:=congrArg Prod.fst (Option.some.inj hcon);exact absurd (e.symm▸hp) (h0 x)
   .cases hcon
  |succ n ih=>have:=step n ih;have e:Fr (n+1)=Fs n:=funext (hs n);rw[e];exact this
 intro args p ρ hcon hp;have BP:=hcon;unfold zL at BP;split at BP
 .next x hx=>have e:=Option.some.inj BP;have e1:(F x).1=p:=congrArg Prod.fst e;obtain⟨n,hn⟩:=hf x (e1.symm▸hp);refine all n args (Fr n x).1 ρ ?_ hn;unfold zL;rw[hx];show some ((Fr n x).1,_)=_;rw[he n x];exact congrArg (λz=>some ((Fr n x).1,z)) (congrArg Prod.snd e)
 .cases BP
end Go.Fw
namespace Go.Fw
open Go
variable {P:Program} {H:Type} {enc:TypeId×Value->H} {w:World}
def ak.app:ak->ak->ak
 |.nil,s=>s
 |.cons c r,s=>.cons c (r.app s)
def V3:(r s:ak)->r.den->s.den->(r.app s).den
 |.nil,_,_,y=>y
 |.cons _ r,s,x,y=>(x.1,V3 r s x.2 y)
theorem aI.app{h:Array Obj}{S:Nat->Prop}:∀(r s:ak)(x:r.den)(y:s.den)(vs us:List Value),aI h S r vs x->aI h S s us y->aI h S (r.app s) (vs++us) (V3 r s x y)
 |.nil,s,x,y,vs,us,h1,h2=>by rw[aI]at h1;subst h1;exact h2
 |.cons c r,s,(x,x'),y,vs,us,h1,h2=>by rw[aI]at h1;obtain⟨v,vs',rfl,g1,g2⟩:=h1;show aI h S (.cons c (r.app s)) (v::(vs'++us)) (x,V3 r s x' y);rw[aI];exact⟨v,vs'++us,rfl,g1,aI.app r s x' y vs' us g2 h2⟩
theorem add_add(a:Addr)(h:a.spot=none)(m j:Nat):(a.add m).add j=⟨a.block,a.off+m+j,none⟩:=by
 obtain⟨b,o,sp⟩:=a;simp only at h;subst h;unfold Addr.add;by_cases hm:m=0
 .by_cases hj:j=0
  .simp[hm,hj]
  .simp[hm,hj]
 .by_cases hj:j=0
  .simp[hm,hj]
  .simp[hm,hj]
def EG(f:TypeId->Option ak):List Field->Nat->Option ak
 |[],_=>some .nil
 |x::r,off=>match f x.type with
  |some s=>match EG f r (off+s.len),Nat.beq x.offset off with
   |some u,true=>some (s.app u)
   |_,_=>none
  |none=>none
def rowOf(P:Program):Nat->TypeId->Option ak
 |0,_=>none
 |n+1,t=>match P.underlying t with
  |some (.int k)=>some (.cons (.int k) .nil)
  |some .bool=>some (.cons .bool .nil)
  |some .string=>some (.cons .str .nil)
  |some (.slice e)=>match rowOf P n e with
   |some s=>match Nat.beq s.len (P.cellsOf e)&&Nat.ble 1 s.len with
    |true=>some (.cons (.sl e s) .nil)
    |false=>none
   |none=>none
  |some (.struct fs)=>match EG (rowOf P n) fs.toList 0 with
   |some r=>match Nat.beq r.len (P.cellsOf t)with
    |true=>match fs.toList.all λf=>match rowOf P n f.type with|some s=>Nat.beq s.len (P.cellsOf f.type)|none=>false with
     |true=>some r
     |false=>none
    |false=>none
   |none=>none
  |_=>none
theorem Y5{α:Type}{Q:Nat->α->Prop}:∀(n:Nat),(∀i,i<n->∃x,Q i x)->∃l:List α,l.length=n/\∀i x,l[i]? =some x->Q i x
 |0,_=>⟨[],rfl,λi x h=>by simp at h⟩
 |n+1,h=>by
  obtain⟨l,hl,hq⟩:=Y5 n λi hi=>h i (by omega);obtain⟨x,hx⟩:=h n (by omega);refine⟨l++[x],by simp[hl],λi y hy=>?_⟩;rcases ahQ i n with hi|hi
  .rw[aib (by omega)]at hy;exact hq i y hy
  .rw[ahZ (by omega)]at hy;have:i=n:=by
    rcases ahQ n i with h'|h'
    .rw[aiD (by simp;omega)]at hy;cases hy
    .omega
   subst this;simp[hl]at hy;rw[← hy];exact hx
theorem Y6:∀(r s:ak),(r.app s).len=r.len+s.len
 |.nil,s=>by simp[ak.app,ak.len]
 |.cons c r,s=>by simp only[ak.app,ak.len,Y6 r s];omega
theorem QI{f:TypeId->Option ak}{S:Nat->Prop}{h:Array Obj}(cs:List Value)
 (part:∀(t:TypeId)(r:ak)(off:Nat),f t=some r->(∃g:Field,g.type=t/\g.offset=off)->True):∀(fs:List Field)(off:Nat)(r:ak),EG f fs off=some r->
 (∀g∈fs,∀s,f g.type=some s->∃x,aI h S s ((cs.drop g.offset).take s.len) x)->
 ∃x,aI h S r ((cs.drop off).take r.len) x
 |[],off,r,hr,_=>by
  cases hr;exact⟨(),by rw[aI];simp[ak.len]⟩
 |g::fs,off,r,hr,hall=>by
  rw[EG]at hr;split at hr
  .next s hs=>
   split at hr
   .next u hu hb=>
    cases hr;obtain⟨x,hx⟩:=hall g ahF s hs;rw[ahs hb]at hx;obtain⟨y,hy⟩:=QI cs part fs (off+s.len) u hu λg' hg'=>hall g' (ahG _ hg');refine⟨V3 s u x y,?_⟩;have:=aI.app s u x y _ _ hx hy;rw[Y6];have e:(cs.drop off).take (s.len+u.len)=(cs.drop off).take s.len++(cs.drop (off+s.len)).take u.len:=by rw[List.take_add,aiX]
    rw[e];exact this
   .cases hr
  .cases hr
theorem Po:∀(n:Nat)(t:TypeId)(r:ak),rowOf P n t=some r->∀(m:Nat)(base:Nat)(spare:Nat->Bool)(held:Bool)(cs:List Value)(x:DataW H×List MemPlace),
 DataW.trod enc P w base spare held m t cs=some x->∃y,aI w.heap (λb=>b<w.heap.size) r cs y
 |0,t,r,hr=>by cases hr
 |n+1,t,r,hr=>by
  intro m base spare held cs x hx;rw[rowOf]at hr;split at hr
  .next k hu=>cases hr;obtain⟨i,rfl,_,hwf⟩:=DataW.trod_int hu hx;simp only[Lit.wf,ahq,ahA]at hwf;exact⟨(i,()),by rw[aI];exact⟨_,[],rfl,by rw[dL];exact⟨rfl,hwf⟩,by rw[aI]⟩⟩
  .next hu=>cases hr;obtain⟨b,rfl,_⟩:=DataW.trod_bool hu hx;exact⟨(b,()),by rw[aI];exact⟨_,[],rfl,by rw[dL],by rw[aI]⟩⟩
  .next hu=>cases hr;obtain⟨s,rfl,_,hs⟩:=DataW.trod_string hu hx;refine⟨(s.data.toList,()),by rw[aI];exact⟨_,[],rfl,by rw[dL];exact⟨by simp,by simpa using hs⟩,by rw[aI]⟩⟩
  .next e hu=>
   split at hr
   .next s hs=>
    split at hr
    .next hb=>
     cases hr;rw[ahq]at hb;have hlen:=ahs hb.1;have hpos:1<=s.len:=by simpa[ajl]using hb.2
     rcases DataW.trod_slice hu hx with⟨rfl,_⟩|⟨a,len,cap,elems,rest,k,_,rfl,_,hbase,hle,hmax,hel,hrow,_,_⟩
     .exact⟨([],()),by rw[aI];exact⟨_,[],rfl,by rw[dL];exact⟨by simp,.inl ⟨rfl,none,0,rfl⟩⟩,by rw[aI]⟩⟩
     .by_cases h0:len=0
      .subst h0;exact⟨([],()),by rw[aI];exact⟨_,[],rfl,by rw[dL];exact⟨by simp,.inl ⟨rfl,some a,cap,rfl⟩⟩,by rw[aI]⟩⟩
      .have each:∀i,i<len->∃(ys:List Value)(z:s.den),w.cells? base (a.add (i*P.cellsOf e)) (P.cellsOf e)=some ys/\aI w.heap (λb=>b<w.heap.size) s ys z:=by intro i hi;have h1:=hrow i hi;rw[ahw (by omega)]at h1;obtain⟨ys,hys,hy2⟩:=Option.bind_eq_some_iff.1 h1;obtain⟨z,hz⟩:=Po n e s hs k base spare held ys _ hy2;exact⟨ys,z,hys,hz⟩
       obtain⟨ys0,z0,hc0,hz0⟩:=each 0 (by omega);obtain⟨_,hl0,hcell0⟩:=World.cells?_some hc0;have Pq:=hcell0 0 (by omega);simp only[ai5,Addr.add,if_true]at Pq;have afJ:∃v,ys0[0]? =some v:=⟨ys0[0]'(by omega),by simp[show 0<ys0.length by omega]⟩;obtain⟨v0,hv0⟩:=afJ;rw[hv0]at Pq;unfold World.cell? at Pq;split at Pq
       .next c ty fz hblk=>
        split at Pq
        .cases Pq
        .next hsp=>
         have hspot:a.spot=none:=by cases h:a.spot with|none=>rfl|some q=>rw[h]at hsp;simp at hsp
         have ha:a=⟨a.block,a.off,none⟩:=by cases a;simp at hspot;rw[hspot]
         have hb':a.block<w.heap.size:=by obtain⟨hlt,_⟩:=ahz.1 hblk;exact hlt
         have rows:∀i,i<len->∃z:s.den,aI w.heap (λb=>b<w.heap.size) s ((c.toList.drop (a.off+i*s.len)).take s.len) z:=by
          intro i hi;obtain⟨ys,z,hcs,hz⟩:=each i hi;obtain⟨_,hl,hcell⟩:=World.cells?_some hcs;refine⟨z,?_⟩;have:(c.toList.drop (a.off+i*s.len)).take s.len=ys:=by
           refine aiT λj=>?_;rcases ahQ j s.len with hj|hj
           .rw[aiH hj,ahW];have h2:=hcell j (by omega);have hadd:=add_add a hspot (i*P.cellsOf e) j;rw[← hlen]at hadd h2;rw[hadd]at h2;unfold World.cell? at h2;simp only[hblk,Option.isSome_none,aiN,ajk]at h2;rw[← h2];simp
           .rw[aiD (by simp;omega),aiD (by omega)]
          rw[this];exact hz
         obtain⟨l,hll,hlq⟩:=Y5 len rows;refine⟨(l,()),by rw[aI];exact⟨_,[],rfl,by rw[dL];exact⟨by omega,.inr ⟨a.block,a.off,cap,c,ty,fz,by rw[hll,← ha],by omega,hb',hblk,hlq⟩⟩,by rw[aI]⟩⟩
       .cases Pq
    .cases hr
   .cases hr
  .next fs hu=>
   split at hr
   .next r' hf=>
    split at hr
    .next hb=>
     split at hr
     .next hall=>
      cases hr;obtain⟨xs,k,_,_,hcl,hxl,hparts⟩:=DataW.trod_struct hu hx;have hlen:=ahs hb;have:=QI (h:=w.heap) (S:=λb=>b<w.heap.size) cs (λ_ _ _ _ _=>trivial) fs.toList 0 _ hf ?_
      .obtain⟨y,hy⟩:=this;refine⟨y,?_⟩;rw[ajU,aiv (by omega)]at hy;exact hy
      .intro g hg s hs;have hg2:=ahH.1 hall g hg;rw[hs]at hg2;have hsl:=ahs hg2;obtain⟨i,hi,hgi⟩:=aiF.1 hg;have hp:=hparts i g (by rw[← hgi];simp[show i<fs.size by simpa using hi]);rw[ahw (by simp at hi;omega)]at hp;rw[hsl];exact Po n g.type s hs k base spare held _ _ hp
     .cases hr
    .cases hr
   .cases hr
  .cases hr
def CT.csh:CT->dG
 |.int k=>.int k
 |.bool=>.bool
 |.str=>.str
 |.sl e r=>.sl e r false
def toC:(c:CT)->c.den->c.csh.den
 |.int _,x=>x
 |.bool,x=>x
 |.str,x=>x
 |.sl _ _,x=>x
def ak.shs:ak->List dG
 |.nil=>[]
 |.cons c r=>c.csh::r.shs
def toCs:(r:ak)->r.den->iD r.shs
 |.nil,_=>()
 |.cons c r,x=>(toC c x.1,toCs r x.2)
theorem TB(X:V):∀(r:ak)(vs:List Value)(x:r.den),aI X.w.heap (X.aX false) r vs x->ai X (dJ r.shs (toCs r x)) vs
 |.nil,vs,x,h=>by rw[aI]at h;subst h;trivial
 |.cons c r,vs,(x,y),h=>by
  rw[aI]at h;obtain⟨v,vs',rfl,h1,h2⟩:=h;refine⟨?_,TB X r vs' y h2⟩;cases c with
  |int k=>exact h1
  |bool=>exact h1
  |str=>exact h1
  |sl e r=>exact h1
def ZT(P:Program)(t:TypeId):Option jV:=
 match rowOf P 64 t with
 |some r=>match P.underlying t with
  |some (.struct _)=>some (.agg r.shs)
  |some (.array _ _)=>none
  |_=>match r with
   |.cons c .nil=>some (.one c.csh)
   |_=>none
 |none=>none
def Dy(P:Program):List TypeId->Option (List dV)
 |[]=>some []
 |t::ts=>match ZT P t,Dy P ts with
  |some s,some l=>some (.v s::l)
  |_,_=>none
def start(w:World):V:=⟨w,w.heap.size,λb=>b<w.heap.size,λ_=>undef,λ_=>none⟩
theorem adh{t:TypeId}{s:jV}(hs:ZT P t=some s){base base':Nat}{sp:Nat->Bool}{hd:Bool}{v:Value}{d:DataW H}{p:List MemPlace}
 (ht:DataW.Trod enc P w base sp hd t v d p) (hv:Value.okWide P w .any base' t v):∃x:s.den,bF (start w) (s.val x) v:=by
 unfold ZT at hs;split at hs
 .next r hr=>
  obtain⟨m,hm⟩:=ht;obtain⟨y,hy⟩:=Po 64 t r hr m base sp hd _ _ hm;have hy':aI (start w).w.heap ((start w).aX false) r v.cells.toList y:=
   aI.mono (λb hb=>⟨⟨⟨hb,λ_=>hb,λo x hx=>by cases hx⟩,λe=>by cases e⟩,rfl⟩) r _ y hy
  unfold Value.okWide at hv;split at hs
  .next fs hu=>cases hs;rw[hu]at hv;obtain⟨cs,rfl,_,_⟩:=hv;exact⟨toCs r y,cs,rfl,TB (start w) r _ y hy'⟩
  .cases hs
  .next hns hna=>
   split at hs
   .next c=>
    cases hs;have hcell:v.cells=#[v]:=by
     cases hv2:v<;>first
      |rfl
      |(exfalso
        rw[hv2]at hv;split at hv
        .next hu=>exact hns _ hu
        .next hu=>exact hna _ _ hu
        .unfold Go.Cell.okWide at hv;split at hv<;>first|(rename_i h1 h2;cases h2;done)|(rename_i h2;cases h2;done)|skip;unfold Go.Cell.ok at hv;split at hv<;>first|(rename_i h1 h2;cases h2;done)|exact hv)
    have:=TB (start w) _ _ y hy';rw[hcell]at this;exact⟨toC c y.1,this.1⟩
   .cases hs
 .cases hs
theorem Xh:∀(ts:List TypeId)(sh:List dV),Dy P ts=some sh->∀{base base':Nat}{sp:Nat->Bool}{hd:Bool}(vs:List Value)(ds:List (DataW H))(p:List MemPlace),
 DataW.TrodAll enc P w base sp hd ts vs ds p->(∀(j:Nat) t v,ts[j]? =some t->vs[j]? =some v->Value.okWide P w .any base' t v)->∃x:eY sh,jy (start w) (nG sh x) vs
 |[],sh,hs,_,_,_,_,vs,ds,p,h,_=>by
  cases hs;cases vs with
  |nil=>exact⟨(),trivial⟩
  |cons v vs=>cases ds<;>simp[DataW.TrodAll]at h
 |t::ts,sh,hs,base,base',sp,hd,vs,ds,p,h,hok=>by
  rw[Dy]at hs;split at hs
  .next s l h1 h2=>
   cases hs;cases vs with
   |nil=>cases ds<;>simp[DataW.TrodAll]at h
   |cons v vs=>
    cases ds with
    |nil=>simp[DataW.TrodAll]at h
    |cons d ds=>obtain⟨a,b,g1,g2,_⟩:=h;obtain⟨x,hx⟩:=adh h1 g1 (hok 0 t v rfl rfl);obtain⟨y,hy⟩:=Xh ts l h2 vs ds b g2 λj t' v' ht' hv'=>hok (j+1) t' v' (by simpa using ht') (by simpa using hv');exact⟨(x,y),hx,hy⟩
  .cases hs
mutual
theorem CT.Dz:∀(c:CT),c.beq c=true
 |.int k=>by simp[CT.beq]
 |.bool=>rfl
 |.str=>rfl
 |.sl e r=>by simp[CT.beq,ak.Dz r]
theorem ak.Dz:∀(r:ak),r.beq r=true
 |.nil=>rfl
 |.cons c r=>by simp[ak.beq,CT.Dz c,ak.Dz r]
end
theorem U2:∀(c:dG)(x:c.den),c.read (c.cell x)=some x
 |.int k,x=>by simp[dG.cell,dG.read]
 |.bool,x=>rfl
 |.str,x=>rfl
 |.sl e r fr,l=>by
  simp only[dG.cell,dG.read,ah6];have h1:Du fr fr=true:=by cases fr<;>rfl
  have h2:r.beq r=true:=ak.Dz r;rw[h1];simp only[Bool.and_self];rw[dif_pos h2];rfl
 |.nil,x=>rfl
 |.ref o,x=>by simp[dG.cell,dG.read]
 |.junk,x=>rfl
theorem QJ:∀(l:List dG)(x:iD l),fC l (dJ l x)=some x
 |[],_=>rfl
 |c::r,x=>by rw[dJ,fC,U2 c x.1,QJ r x.2]
theorem Xi:∀(ts:List TypeId)(l:List dV),Dy P ts=some l->∀(x:eY l),yR l (nG l x)=some x
 |[],l,h,x=>by cases h;rfl
 |t::ts,l,h,x=>by
  rw[Dy]at h;split at h
  .next s r h1 h2=>
   cases h;have ih:=Xi ts r h2 x.2;cases s with
   |one c=>
    have e:(dV.v (.one c)).read ((dV.v (.one c)).val x.1)=some x.1:=U2 c x.1;rw[nG,yR,ih,e]
   |agg l=>have e:(dV.v (.agg l)).read ((dV.v (.agg l)).val x.1)=some x.1:=QJ l x.1;rw[nG,yR,ih,e]
  .cases h
def TD:Out:=⟨[(false,[.plain (.bool true)])],none⟩
theorem aa3{G:fG}{f:FuncId}{fn:Func}{sh:List dV}{F:eY sh->Prop×Out}(hcon:gy P G f (rJ sh F))(hsh:Dy P fn.params.toList=some sh)
 (hF:∀x,BK sh x->(F x).1/\(F x).2=TD) (hG:G.ok w) {base base':Nat} {sp:Nat->Bool} {hd:Bool} {args:Array Value} {ds:List (DataW H)} {p:List MemPlace}
 (hA:DataW.TrodAll enc P w base sp hd fn.params.toList args.toList ds p) (hok:∀(j:Nat) t v,fn.params[j]? =some t->args[j]? =some v->Value.okWide P w .any base' t v):
 Calls P f args w λe w'=>e=.returned (.bool true)/\w'.os=w.os/\w'.output=w.output/\w.heap.size<=w'.heap.size/\∀b,b<w.heap.size->w'.heap[b]? =w.heap[b]? :=by
 obtain⟨x,hx⟩:=Xh _ _ hsh _ _ _ hA λj t v ht hv=>hok j t v (by simpa using ht) (by simpa using hv);have hin:=uD sh x _ hx;obtain⟨hp,ho⟩:=hF x hin;have hc:rJ sh F (nG sh x)=some ((F x).1,TD):=by unfold rJ;rw[Xi _ _ hsh x];simp only[← ho]
 refine(hcon (nG sh x) _ _ 0 _ args w hc hp hG hx).mono ?_;rintro e w' ⟨v,vals,rfl,h1,h2,h3,h4,h5,h6,_,_⟩;have hv:v=.bool true:=h6;exact⟨by rw[hv],h1,h3,h4,h5⟩
theorem abP{w w':World}(h1:w'.os=w.os)(h3:w'.output=w.output)(h5:∀b,b<w.heap.size->w'.heap[b]? =w.heap[b]?)(may:MemPlace->Prop):w.keptBut w' may:=by
 refine⟨h1,h3,λi hi=>?_⟩;rw[h5 i hi];cases hw:w.heap[i]? with
 |none=>trivial
 |some o=>cases o<;>simp
theorem abQ{w w':World}(h5:∀b,b<w.heap.size->w'.heap[b]? =w.heap[b]?){p:MemPlace}(hp:p.block<w.heap.size):w.sameAt w' p:=by
 cases p with
 |cell b off=>
  show w'.cell? _=w.cell? _;unfold World.cell?;simp only;rw[h5 b hp]
 |map b=>exact h5 b hp
end Go.Fw
namespace Go.Fw
open Go
variable {P:Program} {G:fG} {f:FuncId}
theorem kV.mono{X Y:V}(h:X.le Y):∀(a:Arg)(v:Value),kV X a v->kV Y a v
 |.sv x,v,H=>bF.mono h x v H
 |.kp cs,v,H=>aH.mono h (.bW cs 0) v H
 |.fn f caps,v,H=>aH.mono h (.fn f caps) v H
 |.own _ _ _,_,H|.ptr _,_,H=>H.elim
theorem Dk.mono{X Y:V}(h:X.le Y)(i:Nat):∀(a:Arg)(v:Value),Dk X i a v->Dk Y i a v
 |.own _ _ _,v,H=>aG.mono h (.ref (i*64+49)) v H
 |.ptr _,v,H=>aH.mono h (.cu (i*64+48) 0) v H
 |.sv x,v,H=>kV.mono h (.sv x) v H
 |.kp cs,v,H=>kV.mono h (.kp cs) v H
 |.fn f caps,v,H=>kV.mono h (.fn f caps) v H
theorem pX.nil{X Y:V}(h:X.le Y){e:TypeId}{r:ak}:∀(args:List Arg)(vs:List Value)(j i:Nat),args[i]? =some (.sv (.one .nil))->
 Y.af ((j+i)*64+49)=some (.arr e r [] false)->Y.γ ((j+i)*64+49)=.slice none 0 0->pX X j args vs->pX Y j (args.set i (.own e r [])) vs
 |[],[],_,i,ha,_,_,_=>by simp at ha
 |[],_::_,_,_,_,_,_,H=>H.elim
 |_::_,[],_,_,_,_,_,H=>H.elim
 |a::args,v::vs,j,0,ha,ho,hγ,⟨h1,h2⟩=>by
  have ha:a=.sv (.one .nil):=by simpa using ha
  subst ha;have hv:v=.slice none 0 0:=h1;refine⟨⟨⟨e,r,[],false,ho⟩,?_,by rw[hv];rfl⟩,?_⟩
  .rw[hv];exact hγ.symm
  .show pX Y (j+1) args vs;clear h1 ha ho hγ hv;generalize j+1=k at h2
   induction args generalizing k vs with
   |nil=>cases vs with
    |nil=>trivial
    |cons _ _=>exact h2.elim
   |cons b args ih=>cases vs with
    |nil=>exact h2.elim
    |cons u vs=>exact⟨Dk.mono h k b u h2.1,ih vs (k+1) h2.2⟩
 |a::args,v::vs,j,i+1,ha,ho,hγ,⟨h1,h2⟩=>by
  have e1:j+(i+1)=j+1+i:=by omega
  rw[e1]at ho hγ;exact⟨Dk.mono h j a v h1,pX.nil h args vs (j+1) i (by simpa using ha) ho hγ h2⟩
end Go.Fw
namespace Go.Fw
open Go
theorem ah{b:Bool}{A B:Prop}(h1:b=true->A)(h2:b=false->B):cond b A B:=by
 cases b
 .exact h2 rfl
 .exact h1 rfl
theorem dK{D:Type}{A:(D->Prop)->Prop}{R:D->Prop}(f:D)(h1:A λy=>y=f)(h2:R f):∃J:D->Prop,A J/\∀y,J y->R y:=
 ⟨λy=>y=f,h1,λ_ hy=>hy▸h2⟩
theorem drop_cons{α:Type}(a:List α)(n:Nat)(d:α)(h:n<a.length):a.drop n=a.getD n d::a.drop (n+1):=by rw[aiO h,ahv,ahw h,ai7]
theorem dW(z:Int)(h:-9223372036854775808<=z/\z<=9223372036854775807):IntKind.i64.wrap z=z:=IntWalk.i64_in z (by omega)
theorem maxLen_eq:maxLen=9223372036854775807:=by decide
theorem Gm:big=4294967296:=rfl
theorem getD_mem{α:Type}{l:List α}{n:Nat}{d:α}(h:n<l.length):l.getD n d∈l:=by rw[ahv,ahw h,ai7];exact ajo h
end Go.Fw
namespace Go.Fw
open Go
def adR(w:World)(S:Nat->Prop)(k:Nat)(out:Out)(e:Ending)(w':World):Prop:=
 ∃v vals,e=.returned v/\w'.os=w.os/\w'.tape=w.tape/\w'.output=w.output/\w.heap.size<=w'.heap.size/\
    (∀b,b<w.heap.size->w'.heap[b]? =w.heap[b]?)/\
    aH ⟨w',w.heap.size,S,vals,Fw.look (out.take k).2⟩ (out.take k).1 v/\
    (∀o x,Fw.look (out.take k).2 o=some x->aN ⟨w',w.heap.size,S,vals,Fw.look (out.take k).2⟩ o x/\∀b,blk (vals o)=some b->w.heap.size<=b/\b<w'.heap.size)/\
    (∀o x q y b,Fw.look (out.take k).2 o=some x->Fw.look (out.take k).2 q=some y->o≠q->blk (vals o)=some b->blk (vals q)≠some b)
theorem Xj{w w':World}{S:Nat->Prop}{k:Nat}{s:Bytes}(hos:w'.os=w.os)(htape:w'.tape=w.tape)(hout:w'.output=w.output)(hsize:w.heap.size<=w'.heap.size)
 (adS:∀b,b<w.heap.size->w'.heap[b]? =w.heap[b]?) (hs:s.length<=maxLen):adR w S k ⟨[(false,[.plain (.str s)])],none⟩ (.returned (.string ⟨s.toArray⟩)) w':=
 ⟨_,λ_=>undef,rfl,hos,htape,hout,hsize,adS,⟨rfl,hs⟩,(λo x hx=>by cases hx),(λo x q y b hx=>by cases hx)⟩
end Go.Fw
namespace Go.Fw
open Go
variable {P:Program} {H:Type} {enc:TypeId×Value->H} {w:World}
theorem Js(hl:laidOutB P=true){base:Nat}{sp':Nat->Bool}{W W':World}:∀(ts:List TypeId)(_:ts.all (λt=>P.readableRec t&&decide (t<P.types.size))=true)
 (vs:List Value) (ds:List (DataW H)) (ps:List MemPlace),DataW.TrodAll enc P W base (λ_=>true) true ts vs ds ps->(∀p∈ps,W.sameAt W' p)->(∀p∈ps,sp' p.block=true)->DataW.TrodAll enc P W' base sp' true ts vs ds ps
 |[],_,vs,ds,ps,h,_,_=>by
  cases vs<;>cases ds<;>simp[DataW.TrodAll]at h ⊢;exact h
 |t::ts,ht,vs,ds,ps,h,h1,h2=>by
  rw[aim,ahq,ahq]at ht;cases vs with
  |nil=>cases ds<;>simp[DataW.TrodAll]at h
  |cons v vs=>
   cases ds with
   |nil=>simp[DataW.TrodAll]at h
   |cons d ds=>
    obtain⟨a,b,g1,g2,rfl⟩:=h;exact⟨a,b,WideElems.Trod_stays hl ht.1.1 (aio ht.1.2) g1 (λp hp=>h1 p (ah9 _ hp)) (λp hp=>h2 p (ah9 _ hp)),
     Js hl ts ht.2 vs ds b g2 (λp hp=>h1 p (aiz _ hp)) (λp hp=>h2 p (aiz _ hp)),rfl⟩
theorem trodAll_length{base:Nat}{sp:Nat->Bool}{hd:Bool}{W:World}:∀(ts:List TypeId)(vs:List Value)(ds:List (DataW H))(ps:List MemPlace),DataW.TrodAll enc P W base sp hd ts vs ds ps->ds.length=ts.length
 |[],vs,ds,ps,h=>by cases vs<;>cases ds<;>simp[DataW.TrodAll]at h ⊢
 |t::ts,vs,ds,ps,h=>by
  cases vs with
  |nil=>cases ds<;>simp[DataW.TrodAll]at h
  |cons v vs=>
   cases ds with
   |nil=>simp[DataW.TrodAll]at h
   |cons d ds=>obtain⟨a,b,g1,g2,rfl⟩:=h;simp[trodAll_length ts vs ds b g2]
theorem abR{fn:Func}{s:ChangeSpec}{apart fresh handsOn again:Bool}{W W':World}{args:Array Value}{ds gs:List (DataW H)}{before:List MemPlace}{tb:TypeId}
 (hvars:s.vars=[]) (hspec:∀l:List (DataW H),l.length=fn.params.toList.length->(s.fn H l).results=[.lit (.bool true)]/\(s.fn H l).args=l/\(s.fn H l).vars=[])
 (hres:fn.resultTypes=#[tb]) (hb:P.underlying tb=some .bool) (hl:laidOutB P=true) (hread:fn.params.toList.all (λt=>P.readableRec t&&decide (t<P.types.size))=true)
 (hW:DataW.Whole enc P fn.params.toList s.vars apart W args.toList ds gs before) (hos:W'.os=W.os) (hout:W'.output=W.output) (hheap:∀b,b<W.heap.size->W'.heap[b]? =W.heap[b]?):
 s.post enc P fn apart fresh handsOn again W args (.bool true) W':=by
 have hlt:=hW.lt;have hW0:=hW;obtain⟨p,q,hA,hV,hpq,hz,hn⟩:=hW;rw[hvars]at hV;have hg:gs=[]/\q=[]:=by
  cases gs with
  |nil=>exact⟨rfl,hV⟩
  |cons g gs=>simp[DataW.TrodVars]at hV
 obtain⟨rfl,rfl⟩:=hg;rw[ah0]at hpq;subst hpq;have hlen:=trodAll_length _ _ _ _ hA;obtain⟨r1,r2,r3⟩:=hspec (ds++[]) (by simpa using hlen);rw[ah0]at r1 r2 r3;have hsame:∀x∈before,W.sameAt W' x:=λx hx=>abQ hheap (hlt x hx);have R:∀(b:Nat)(sp:Nat->Bool)(hd:Bool),DataW.TrodAll enc P W' b sp hd fn.resultTypes.toList ((Value.bool true).resultList fn.resultTypes.size) [.lit (.bool true)] []:=by intro b sp hd;rw[hres];exact⟨[],[],⟨1,by simp[DataW.trod,Value.cells,hb]⟩,rfl,rfl⟩
 have A:∀sp:Nat->Bool,(∀x∈before,sp x.block=true)->DataW.TrodAll enc P W' 0 sp true fn.params.toList args.toList ds before:=λsp hsp=>Js hl _ hread _ _ _ hA hsame hsp;have hold:∀x∈before,(λb=>decide (b<W.heap.size)) x.block=true:=λx hx=>by simpa using hlt x hx
 refine⟨ds,[],before,[],before,[],hW0,?_,?_,?_,abP hos hout hheap _,λ_=>⟨?_,.lit (.bool true)::ds,[],before,⟨before,[],?_,?_,by simp,?_,hn⟩,λx hx _=>hx⟩⟩
 .rw[ah0,r1];exact R _ _ _
 .rw[ah0,r2];exact A _ hold
 .rw[ah0,r3,hvars];rfl
 .intro j t r h1 h2;rw[hres]at h1 h2
  match j with
  |0=>
   simp[Value.resultList]at h1 h2;subst h1 h2;simp[Value.okWide,hb,Go.Cell.okWide,Go.Cell.ok]
  |j+1=>simp at h1
 .exact ChangeShapes.trodAll_append (A _ (λ_ _=>rfl)) (R _ _ _)
 .rw[hvars];rfl
 .intro b off hp;have hbl:=hlt _ hp;have e:W'.frozen? ⟨b,off,none⟩=W.frozen? ⟨b,off,none⟩:=by unfold World.frozen?;simp only;rw[hheap b hbl]
  rw[e];exact hz b off hp
end Go.Fw
namespace Go.Fw
open Go
end Go.Fw
namespace Go.Fw
open Go
theorem ND{H:Type}{enc:TypeId×Value->H}{C:Checked}{G:fG}{os:Os}{f:FuncId}{fn:Func}{s:ChangeSpec}{conds:List PathCond}{apart fresh handsOn again:Bool}{tb:TypeId}{sh:List dV}{F:eY sh->Prop×Out}
 {X:World->Prop} (hX:∀w w':World,w.heap=w'.heap->X w->X w')
 (own:ownKnob C.prog.godebug=none) (started:os.Started) (noInit:C.prog.inits.idxOf? f=none) (hfn:C.prog.funcs[f]? =some fn)
 (witness:∃(w:World)(tape:Tape)(i:Input),w.os=os/\(w.forCall tape i).Shaped C.prog/\i.vars=[]/\Input.okWide C.prog (w.forCall tape i) .any w.heap.size f i/\
   ((s.pre enc C.prog fn conds apart (w.forCall tape i).memory i.args/\X (w.forCall tape i).memory)/\sizedMet enc C.prog fn (OpenSpec.ofChange s) apart (w.forCall tape i).memory i.args)/\({}:Assume).holds C.prog (lone (Frame.enter C.prog f i.args .normal) [] (w.forCall tape i)))
 (hcon:gy C.prog G f (rJ sh F)) (hsh:Dy C.prog fn.params.toList=some sh) (hF:∀x,BK sh x->(F x).1/\(F x).2=TD) (hG:∀w,X w->w.ShapedOpen C.prog->G.ok w)
 (hvars:s.vars=[]) (hspec:∀l:List (DataW H),l.length=fn.params.toList.length->(s.fn H l).results=[.lit (.bool true)]/\(s.fn H l).args=l/\(s.fn H l).vars=[])
 (hres:fn.resultTypes=#[tb]) (hb:C.prog.underlying tb=some .bool) (hl:laidOutB C.prog=true) (hread:fn.params.toList.all (λt=>C.prog.readableRec t&&decide (t<C.prog.types.size))=true):
 ReturnsInHanded {} C os f .any (λw args=>(s.pre enc C.prog fn conds apart w args/\X w)/\sizedMet enc C.prog fn (OpenSpec.ofChange s) apart w args) (s.post enc C.prog fn apart fresh handsOn again):=by
 refine returnsInHanded_of_calls own started noInit witness ?_;intro w tape i _ adi _ hok hpre _;obtain⟨_,_,_,fn',hfn',_,_,_,_,hval⟩:=hok;have e:fn'=fn:=Option.some.inj (hfn'.symm.trans hfn);subst e;obtain⟨⟨⟨ds,gs,before,hw,hc⟩,hx⟩,hz⟩:=hpre;have hW:=DataW.Whole.of_heap (w':=w.forCall tape i) (by rfl) hw;have hW0:=hW;obtain⟨p,q,hA,_⟩:=hW;refine(aa3 hcon hsh hF (hG (w.forCall tape i) (hX _ _ (by rfl) hx) adi) hA hval).mono ?_;rintro e W' ⟨rfl,h1,h2,_,h3⟩;exact ChangeSpec.post_blind (abR hvars hspec hres hb hl hread hW0 h1 h2 h3)
end Go.Fw
