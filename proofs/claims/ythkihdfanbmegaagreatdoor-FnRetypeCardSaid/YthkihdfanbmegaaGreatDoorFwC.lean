import Derived.Test.YthkihdfanbmegaaGreatDoorFwD
import Derived.Test.YthkihdfanbmegaaGreatDoorFwB
import Derived.Test.YthkihdfanbmegaaGreatDoorFwA
import Derived.ChangeArms
import Derived.WideKeyArgs
import Derived.ChangeSame
import Derived.ChangeOld
import Derived.Handed
import Derived.IntWalk
import Derived.Laws.IdiomCopy
import Derived.ProofKit
namespace Go.Fw
open Go
variable {P:Program} {w0:World} {M:Nat->Prop} {T:Ext} {γ γ':Nat->Value} {st:St} {a:Act} {w w':World} {Θ:jk} {Γ:kz}
structure Ic where
 ajQ:List Vm
 c:Shape
 v:Shape
structure Hints where
 own:Nat->Bool
 loops:Nat->Option Ic
 cuts:Nat->Option Ic
 upd:List Nat
 frz:Nat->List Pre
def xM:Code->Option Nat
 |.region id _ _=>some id
 |.seq x y=>match xM x with|some n=>some n|none=>xM y
 |.cond _ x y=>match xM x with|some n=>some n|none=>xM y
 |.block _ x|.loop x=>xM x
 |_=>none
def cutAt(H:Hints)(y:Code):Option Ic:=match xM y with
 |some n=>H.cuts n
 |none=>none
def Gi(Θ:jk)(Γ:kz)(H:Hints):Code->(Exit->St->Prop)->St->Prop
 |.skip,Q,st=>Q .normal st
 |.region id ops false,Q,st=>QW (H.frz id) (runs Θ Γ H.own ops.toList (Q .normal) ops.toList) st
 |.region id ops true,Q,st=>QW (H.frz id) (NI Θ Γ H.own H.upd ops.toList (Q .normal)) st
 |.seq x y,Q,st=>match cutAt H y with
  |none=>Gi Θ Γ H x (λe s=>match e with|.normal=>Gi Θ Γ H y Q s|e=>Q e s) st
  |some sp=>match sp.c.read (only sp.c sp.v st)with
   |some x0=>∃(J:sp.v.den->Prop),Gi Θ Γ H x (λe s=>match e with
     |.normal=>match settles s sp.ajQ with
      |some s1=>match Nat.beq s1.n st.n,sp.c.read (only sp.c sp.v s1),sp.v.read (only sp.c sp.v s1)with
       |true,some x1,some y1=>x1=x0/\J y1
       |_,_,_=>False
      |none=>False
     |e=>Q e s) st/\∀y1,J y1->Gi Θ Γ H y Q (joint st.n sp.c sp.v x0 y1)
   |none=>False
 |.cond c x y,Q,st=>match st.ev c with
  |.sv (.one (.bool b))=>cond b (Gi Θ Γ H x Q st) (Gi Θ Γ H y Q st)
  |_=>False
 |.block id c,Q,st=>Gi Θ Γ H c (λe s=>match e with
  |.exit i=>match Nat.beq i id with|true=>Q .normal s|false=>Q (.exit i) s
  |e=>Q e s) st
 |.exit id,Q,st=>Q (.exit id) st
 |.ret,Q,st=>Q .ret st
 |.loop c,Q,st=>match xM c with
  |some n=>match H.loops n with
   |some sp=>match settles st sp.ajQ with
    |some s0=>match sp.c.read (only sp.c sp.v s0),sp.v.read (only sp.c sp.v s0)with
     |some x0,some y0=>∃(I:sp.v.den->Prop)(μ:sp.v.den->Nat),I y0/\∀y,I y->
       Gi Θ Γ H c (λe s=>match e with
        |.normal=>match settles s sp.ajQ with
         |some s1=>match Nat.beq s1.n s0.n,sp.c.read (only sp.c sp.v s1),sp.v.read (only sp.c sp.v s1)with
          |true,some x1,some y1=>x1=x0/\I y1/\μ y1<μ y
          |_,_,_=>False
         |none=>False
        |e=>Q e s) (joint s0.n sp.c sp.v x0 y)
     |_,_=>False
    |none=>False
   |none=>False
  |none=>False
 |_,_,_=>False
theorem Vo{G:jF}(hE:rE P G Θ Γ w0 M)(hm:P.follows .mixedOrders=true)(H:Hints):∀(c:Code)(QA:Exit->St->Prop)(Q:Exit->Act->World->Prop)(st:St)(γ:Nat->Value)(a:Act)(w:World),
 Rel w0 M T γ st a w->Gi Θ Γ H c QA st->(∀e s γ' a' w',QA e s->Rel w0 M T γ' s a' w'->Q e a' w')->c.wp P Q a w:=by
 intro c
 induction c with
 |skip=>intro QA Q st γ a w h ha hQ;exact wp_skip (hQ _ _ _ _ _ ha h)
 |region id ops d=>
  intro QA Q st γ a w h ha hQ;cases d with
  |false=>
   obtain⟨s0,γ0,h0,hk0⟩:=Dl (K:=runs Θ Γ H.own ops.toList (QA .normal) ops.toList) (H.frz id) st γ h ha;exact ag0 hE h0 hk0 λs γ' a' w' hK hR=>hQ _ _ _ _ _ hK hR
  |true=>
   obtain⟨s0,γ0,h0,hk0⟩:=Dl (K:=NI Θ Γ H.own H.upd ops.toList (QA .normal)) (H.frz id) st γ h ha;exact ak1 hE hm h0 hk0 λs γ' a' w' hK hR=>hQ _ _ _ _ _ hK hR
 |seq x y ihx ihy=>
  intro QA Q st γ a w h ha hQ;rw[Gi]at ha;split at ha
  .refine wp_seq (ihx _ _ st γ a w h ha ?_);intro e s γ' a' w' hq hR;cases e<;>first|exact ihy _ _ s γ' a' w' hR hq hQ|exact hQ _ _ _ _ _ hq hR
  .next sp hsp=>
   split at ha
   .next x0 hx=>
    obtain⟨J,h1,h2⟩:=ha;refine wp_seq (ihx _ _ st γ a w h h1 ?_);intro e s γ' a' w' hq hR;cases e with
    |normal=>
     simp only at hq;split at hq
     .next s1 hs1=>
      split at hq
      .next x1 y1 hsn hx1 hy1=>obtain⟨rfl,hJ⟩:=hq;obtain⟨γ1,hR1⟩:=Rel.settles _ hR hs1;have hR2:=hR1.joint hx1 hy1;rw[arl hsn]at hR2;exact ihy _ _ _ γ1 a' w' hR2 (h2 _ hJ) hQ
      .exact hq.elim
     .exact hq.elim
    |_=>exact hQ _ _ _ _ _ hq hR
   .exact ha.elim
 |cond c x y ihx ihy=>
  intro QA Q st γ a w h ha hQ;rw[Gi]at ha;split at ha
  .next b hb=>
   have hv:a.eval c=.bool b:=by have:=iQ h c;rw[hb]at this;exact this
   refine wp_cond_split hv (λe=>?_) (λe=>?_)
   .subst e;exact ihx _ _ st γ a w h ha hQ
   .subst e;exact ihy _ _ st γ a w h ha hQ
  .exact ha.elim
 |block id c ih=>
  intro QA Q st γ a w h ha hQ;refine wp_block (ih _ _ st γ a w h ha ?_);intro e s γ' a' w' hq hR;cases e with
  |exit i=>
   simp only[Exit.inBlock];cases hb:Nat.beq i id with
   |true=>
    simp only[hb]at hq;rw[if_pos (arl hb)];exact hQ _ _ _ _ _ hq hR
   |false=>
    simp only[hb]at hq;rw[if_neg (by rintro rfl;simp at hb)];exact hQ _ _ _ _ _ hq hR
  |_=>exact hQ _ _ _ _ _ hq hR
 |loop c ih=>
  intro QA Q st γ a w h ha hQ;rw[Gi]at ha;split at ha
  .split at ha
   .next sp hsp=>
    split at ha
    .next s0 hs0=>
     split at ha
     .next x0 y0 hx hy=>
      obtain⟨I,μ,h0,hI⟩:=ha;obtain⟨γ0,hR0⟩:=Rel.settles _ h hs0
      let J:sp.v.den->Act->World->Prop:=λy a' w'=>∃γ',Rel w0 M T γ' (joint s0.n sp.c sp.v x0 y) a' w'
      have key:∀(n:Nat)(y:sp.v.den),μ y=n->I y->∀a' w',J y a' w'->∀(b:Frame)(k:List Item)(cs:List Frame),
       ∃e a'' w'',Q e a'' w''/\Arrives P (lone (b.at a' (.code c:: .inLoop c::k)) cs w') b k cs e a'' w'':=by
       intro n
       induction n using Nat.strongRecOn with
       |_ n ihn=>
        intro y hμ hy' a' w' ⟨γ',hR⟩ b k cs;have hbody:=ih _ (Exit.then (λa2 w2=>∃y2,I y2/\μ y2<μ y/\J y2 a2 w2) Q) _ γ' a' w' hR (hI y hy') ?_
        .obtain⟨e,a1,w1,hq,harr⟩:=hbody b (.inLoop c::k) cs;cases e with
         |normal=>
          obtain⟨y2,hI2,hlt,hJ2⟩:=hq;obtain⟨e2,a2,w2,hq2,aoA⟩:=ihn (μ y2) (hμ▸hlt) y2 rfl hI2 a1 w1 hJ2 b k cs;exact⟨e2,a2,w2,hq2,.of_steps (Steps.trans harr (.one step_inLoop)) aoA⟩
         |exit id=>exact⟨_,a1,w1,hq,.pass (x:=.inLoop c) rfl (λ_ _=>.inl (by simp)) harr⟩
         |goto l=>exact⟨_,a1,w1,hq,.pass (x:=.inLoop c) rfl (λ_ _=>.inl (by simp)) harr⟩
         |ret=>exact⟨_,a1,w1,hq,.pass (x:=.inLoop c) rfl (λ_ _=>.inl (by simp)) harr⟩
         |panic ch=>exact⟨_,a1,w1,hq,.pass (x:=.inLoop c) rfl (λ_ _=>.inl (by simp)) harr⟩
         |outgrown=>exact⟨_,a1,w1,hq,.pass (x:=.inLoop c) rfl (λ_ _=>.inl (by simp)) harr⟩
        .intro e s γ2 a2 w2 hq hR2;cases e with
         |normal=>
          simp only at hq;split at hq
          .next s1 hs1=>
           split at hq
           .next x1 y1 hsn hx1 hy1=>obtain⟨rfl,hI1,hlt⟩:=hq;obtain⟨γ3,hR3⟩:=Rel.settles _ hR2 hs1;have hJ:=hR3.joint hx1 hy1;rw[arl hsn]at hJ;exact⟨y1,hI1,hlt,_,hJ⟩
           .exact hq.elim
          .exact hq.elim
         |_=>exact hQ _ _ _ _ _ hq hR2
      intro b k cs;obtain⟨e,a',w',hq,harr⟩:=key _ y0 rfl h0 a w ⟨_,hR0.joint hx hy⟩ b k cs;exact⟨e,a',w',hq,.of_steps (.one step_loop) harr⟩
     .exact ha.elim
    .exact ha.elim
   .exact ha.elim
  .exact ha.elim
 |rangeFunc f ps x y ihx ihy=>intro QA Q st γ a w h ha hQ;exact ha.elim
 |exit id=>intro QA Q st γ a w h ha hQ;exact wp_exit (hQ _ _ _ _ _ ha h)
 |scope c ih=>intro QA Q st γ a w h ha hQ;exact ha.elim
 |label l=>intro QA Q st γ a w h ha hQ;exact ha.elim
 |goto l=>intro QA Q st γ a w h ha hQ;exact ha.elim
 |ret=>intro QA Q st γ a w h ha hQ;exact wp_ret (hQ _ _ _ _ _ ha h)
 |refuse s=>intro QA Q st γ a w h ha hQ;exact ha.elim
def Arg.av:Arg->AV
 |.sv v=>.sv v
 |.kp cs=>.dS cs 0
 |.fn f caps=>.fn f caps
 |.own _ _ _|.ptr _=>.undef
def entry(n:Nat)(args:List Arg):St:=
 {n:=n,tmps:=λt=>match args[t]? with|some v=>v.av|none=>.undef,ah:=λ_=>none}
def NJ(st:St)(o:Nat):Bool:=match st.ah o with|some (.arr _ _ _ _)=>true|_=>false
def aa9(Θ:jk)(st:St):ResultVar->Option SV
 |.tmp t=>match st.tmps t with|.sv v=>some v|_=>none
 |.cell t ty=>match Θ ty,st.tmps t with
  |some ti,.bG o off=>match st.ah o with
   |some (.var cs)=>kR ti cs off
   |_=>none
  |_,_=>none
def LD(Θ:jk)(st:St):List ResultVar->Option (List SV)
 |[]=>some []
 |r::rs=>match aa9 Θ st r,LD Θ st rs with
  |some v,some vs=>some (v::vs)
  |_,_=>none
def outOf:SV->Bool×List fG
 |.one c=>(false,[.plain c])
 |.agg cs=>(true,cs.map .plain)
def outs:List SV->List (Bool×List fG)
 |[]=>[]
 |v::vs=>outOf (v.kill λ_=>true)::outs vs
def fin(Θ:jk)(rv:List ResultVar)(st:St):Option Out:=
 match LD Θ (st.freeze (NJ st)) rv with
 |some vs=>some ⟨outs vs,none⟩
 |none=>none
theorem NK:∀(k:Nat)(cs:List Cell),jI k (cs.map .plain)=(cs,[])
 |_,[]=>rfl
 |k,c::cs=>by simp only[arS,jI,NK (k+1) cs,fG.take,ash]
theorem aim(k:Nat)(v:SV):vS k (outOf v)=(v,[]):=by
 cases v with
 |one c=>rfl
 |agg cs=>simp only[vS,outOf,NK]
theorem ann(v:Value)(t:TypeId)(b off:Nat)(hv:v=.pointer (some ⟨b,off,none⟩)):Instr.loadAt t v=(do loadVar t (← asAddr v)):=by subst hv;rfl
def I8(tmps:Array Value):ResultVar->Sem Value
 |.tmp t=>pure (tmps.getD t undef)
 |.cell x t=>do loadVar t (← asAddr (tmps.getD x undef))
theorem QY(fn:Func)(tmps:Array Value):results fn tmps=(do let vs ← fn.results.mapM (I8 tmps);pure (if h:vs.size=1 then vs[0]else .tuple vs)):=by unfold results;congr 1
theorem ag2(hΘ:∀t ti,Θ t=some ti->kU P t ti)(h:Rel w0 M T γ st a w){r:ResultVar}{v:SV}(hf:aa9 Θ st r=some v):
 ∃u,(I8 a.tmps r).run P w=.ok u w/\dQ (aj w0 T γ st w) v u:=by
 cases r with
 |tmp t=>
  simp only[aa9]at hf;split at hf
  .next e=>cases hf;have:=h.tmps t;rw[e]at this;exact⟨_,rfl,this⟩
  .cases hf
 |cell x t=>
  simp only[aa9]at hf;split at hf
  .next ti o off ht hx=>
   split at hf
   .next cs ho=>have hv:=h.tmps x;rw[hx]at hv;obtain⟨b,cs',_,_,hv'⟩:=hv;obtain⟨u,hu,hr⟩:=Ny hΘ h ht (x:=.tmp x) (.inl ⟨o,off,cs,hx,ho,hf⟩);refine⟨u,?_,hr⟩;rw[I8,← ann _ t b off hv'];exact hu
   .cases hf
  .cases hf
theorem LG(hΘ:∀t ti,Θ t=some ti->kU P t ti)(h:Rel w0 M T γ st a w):∀(rs:List ResultVar)(vs:List SV),LD Θ st rs=some vs->
 ∃us,(rs.mapM (I8 a.tmps)).run P w=.ok us w/\
  dU (aj w0 T γ st w) vs us
 |[],vs,hf=>by cases hf;exact⟨[],rfl,trivial⟩
 |r::rs,vs,hf=>by
  rw[LD]at hf;split at hf
  .next v vs' h1 h2=>cases hf;obtain⟨u,hu,hr⟩:=ag2 hΘ h h1;obtain⟨us,hus,hrs⟩:=LG hΘ h rs vs' h2;refine⟨u::us,?_,hr,hrs⟩;rw[au1,arJ,hu];simp only[asa,arJ,hus,asu]
  .cases hf
theorem dU.length{X:V}:∀(cs:List SV)(vs:List Value),dU X cs vs->vs.length=cs.length
 |[],[],_=>rfl
 |_::cs,_::vs,⟨_,h⟩=>by simp[dU.length cs vs h]
 |[],_::_,H|_::_,[],H=>by cases H
theorem dU.get{X:V}:∀(cs:List SV)(vs:List Value)(i:Nat)(c:SV),dU X cs vs->cs[i]? =some c->∃v,vs[i]? =some v/\dQ X c v
 |[],_,_,_,_,h=>by simp at h
 |c::cs,v::vs,0,d,⟨h1,_⟩,h=>by simp at h;subst h;exact⟨v,rfl,h1⟩
 |c::cs,v::vs,i+1,d,⟨_,h2⟩,h=>by
  obtain⟨u,hu,hr⟩:=dU.get cs vs i d h2 (by simpa using h);exact⟨u,by simpa using hu,hr⟩
 |_::_,[],_,_,H,_=>by cases H
theorem oh.length{X:V}:∀(cs:List Arg)(vs:List Value),oh X cs vs->vs.length=cs.length
 |[],[],_=>rfl
 |_::cs,_::vs,⟨_,h⟩=>by simp[oh.length cs vs h]
 |[],_::_,H|_::_,[],H=>by cases H
theorem oh.get{X:V}:∀(cs:List Arg)(vs:List Value)(i:Nat)(c:Arg),oh X cs vs->cs[i]? =some c->∃v,vs[i]? =some v/\qc X c v
 |[],_,_,_,_,h=>by simp at h
 |c::cs,v::vs,0,d,⟨h1,_⟩,h=>by simp at h;subst h;exact⟨v,rfl,h1⟩
 |c::cs,v::vs,i+1,d,⟨_,h2⟩,h=>by
  obtain⟨u,hu,hr⟩:=oh.get cs vs i d h2 (by simpa using h);exact⟨u,by simpa using hu,hr⟩
 |_::_,[],_,_,H,_=>by cases H
theorem qc.av{X:V}:∀(c:Arg)(v:Value),qc X c v->aZ X c.av v
 |.sv _,_,h|.kp _,_,h|.fn _ _,_,h=>h
 |.own _ _ _,_,h|.ptr _,_,h=>h.elim
theorem ak3{args:List Arg}{vs:Array Value}{S:Nat->Prop}(n:Nat)(hn:args.length<=n)
 (h:oh ⟨w,w.heap.size,S,λ_=>undef,λ_=>none⟩ args vs.toList):
 Rel w (λ_=>False) ⟨S,λ_=>none,λ_ _ h=>by cases h⟩ (λ_=>undef) (entry n args) {tmps:=vs++Array.replicate (n-vs.size) undef,defers:=[]} w:=by
 have hl:vs.size=args.length:=by simpa using oh.length _ _ h
 refine⟨λ_ h=>h.elim,rfl,?_,rfl,rfl,rfl,arF _,λ_ _ _=>rfl,λt=>?_,(λo x hx=>by cases hx),(λo x b hx=>by cases hx),(λo x p y b hx=>by cases hx),(λo v cs hN=>by cases hN)⟩
 .simp[entry];omega
 .simp only[entry];cases ha:args[t]? with
  |none=>trivial
  |some v=>
   obtain⟨u,hu,hr⟩:=oh.get _ _ t v h ha;have:(vs++Array.replicate (n-vs.size) undef).getD t undef=u:=by
    have hlt:t<args.length:=by
     rcases arH t args.length with h'|h'
     .exact h'
     .rw[asi h']at ha;cases ha
    have hlt':t<vs.size:=by omega
    rw[ate,asI hlt'];have:vs[t]? =some u:=by simpa using hu
    rw[this];rfl
   rw[this];exact qc.av v u hr
end Go.Fw
namespace Go.Fw
def codeOf(fn:Func):Code:=match fn.body with|some c=>c|none=>.skip
def abb:List (Nat×TI)->jk
 |[],_=>none
 |(t,x)::r,i=>match Nat.beq i t with|true=>some x|false=>abb r i
def JW:List (Nat×Jq)->kz
 |[],_=>none
 |(t,x)::r,i=>match Nat.beq i t with|true=>some x|false=>JW r i
def ajR:List (Nat×Ic)->Nat->Option Ic
 |[],_=>none
 |(t,x)::r,i=>match Nat.beq i t with|true=>some x|false=>ajR r i
def amY:List (Nat×List Pre)->Nat->List Pre
 |[],_=>[]
 |(n,z)::r,i=>match Nat.beq i n with|true=>z|false=>amY r i
def hints(own:List Nat)(l c:List (Nat×Ic))(u:List Nat)(z:List (Nat×List Pre)):Hints:=⟨aO own,ajR l,ajR c,u,amY z⟩
end Go.Fw
namespace Go.Fw
open Go
variable {P:Program} {Θ:jk} {Γ:kz}
inductive pF where
 |one (c:gI)
 |agg (l:List gI)
@[reducible] def pF.den:pF->Type
  |.one c=>c.den
  |.agg l=>lg l
def pF.val:(s:pF)->s.den->SV
 |.one c,x=>.one (c.cell x)
 |.agg l,x=>.agg (gY l x)
def pF.read:(s:pF)->SV->Option s.den
 |.one c,.one x=>c.read x
 |.agg l,.agg xs=>jJ l xs
 |_,_=>none
theorem pF.weak{X:V}(s:pF)(x:SV)(d:s.den)(v:Value)(hr:s.read x=some d)(hv:dQ X x v):dQ X (s.val d) v:=by
 unfold pF.read at hr;split at hr
 .exact gI.weak _ _ _ _ hr hv
 .obtain⟨vs,e,h⟩:=hv;exact⟨vs,e,Ee _ _ _ _ hr h⟩
 .cases hr
@[reducible] def qB:List pF->Type
  |[]=>Unit
  |s::r=>s.den×qB r
def qP:(l:List pF)->qB l->List SV
 |[],_=>[]
 |s::r,x=>s.val x.1::qP r x.2
def Pz:(l:List pF)->List SV->Option (qB l)
 |[],[]=>some ()
 |s::r,x::xs=>match s.read x,Pz r xs with
  |some a,some b=>some (a,b)
  |_,_=>none
 |_,_=>none
theorem ak4{X:V}:∀(l:List pF)(xs:List SV)(d:qB l)(vs:List Value),Pz l xs=some d->dU X xs vs->dU X (qP l d) vs
 |[],[],_,_,_,hv=>hv
 |s::r,x::xs,d,vs,hr,hv=>by
  rw[Pz]at hr;split at hr
  .next a b h1 h2=>
   cases hr;cases vs with
   |nil=>cases hv
   |cons v vs=>exact⟨pF.weak s x a v h1 hv.1,ak4 r xs b vs h2 hv.2⟩
  .cases hr
 |[],_::_,_,_,hr,_=>by simp[Pz]at hr
 |_::_,[],_,_,hr,_=>by simp[Pz]at hr
mutual
def CT.rF:(c:CT)->c.den->Prop
 |.int k,(n:Int)=>k.min<=n/\n<=k.max
 |.bool,_=>True
 |.str,(s:Bytes)=>s.length<=maxLen
 |.sl _ r,(l:List r.den)=>l.length<=maxLen/\∀x∈l,r.rF x
def aB.rF:(r:aB)->r.den->Prop
 |.nil,_=>True
 |.cons c r,x=>c.rF x.1/\r.rF x.2
end
mutual
theorem jf.rF{h:Array Obj}{S:Nat->Prop}:∀(c:CT)(v:Value)(x:c.den),jf h S c v x->c.rF x
 |.int k,v,(n:Int),H=>by rw[jf]at H;rw[CT.rF];exact H.2
 |.bool,v,(b:Bool),H=>by rw[CT.rF];trivial
 |.str,v,(s:Bytes),H=>by rw[jf]at H;rw[CT.rF];exact H.2
 |.sl e r,v,(l:List r.den),H=>by
  rw[jf]at H;rw[CT.rF];refine⟨H.1,λx hx=>?_⟩;obtain⟨i,hi,rfl⟩:=atM.1 hx;rcases H.2 with⟨hnil,_⟩|⟨b,off,cap,cs,t,fz,_,_,_,_,hr⟩
  .subst hnil;simp at hi
  .exact bn.rF r _ _ (hr i _ (ars hi))
theorem bn.rF{h:Array Obj}{S:Nat->Prop}:∀(r:aB)(vs:List Value)(x:r.den),bn h S r vs x->r.rF x
 |.nil,vs,_,H=>by rw[aB.rF];trivial
 |.cons c r,vs,(x,y),H=>by rw[bn]at H;obtain⟨v,vs',_,h1,h2⟩:=H;rw[aB.rF];exact⟨jf.rF c v x h1,bn.rF r vs' y h2⟩
end
def gI.rF:(c:gI)->c.den->Prop
 |.int k,(n:Int)=>k.min<=n/\n<=k.max
 |.str,(s:Bytes)=>s.length<=maxLen
 |.sl _ r _,(l:List r.den)=>l.length<=maxLen/\∀x∈l,r.rF x
 |_,_=>True
def XC:(l:List gI)->lg l->Prop
 |[],_=>True
 |c::r,x=>c.rF x.1/\XC r x.2
def pF.rF:(s:pF)->s.den->Prop
 |.one c,x=>c.rF x
 |.agg l,x=>XC l x
theorem gI.XD{X:V}(c:gI)(x:c.den)(v:Value)(h:aS X (c.cell x) v):c.rF x:=by
 cases c with
 |int k=>exact h.2
 |str=>exact h.2
 |sl e r fr=>
  have h':jf X.w.heap (X.bZ fr) (.sl e r) v x:=h;have:=jf.rF (.sl e r) v x h';rw[CT.rF]at this;exact this
 |_=>trivial
theorem I9{X:V}:∀(l:List gI)(x:lg l)(vs:List Value),ai X (gY l x) vs->XC l x
 |[],_,_,_=>trivial
 |c::r,x,v::vs,h=>⟨gI.XD c x.1 v h.1,I9 r x.2 vs h.2⟩
 |_::_,_,[],h=>by cases h
inductive iq where
 |v (s:pF)
 |kp (l:List gI)
 |fn (f:FuncId) (l:List (List gI))
@[reducible] def iq.den:iq->Type
  |.v s=>s.den
  |.kp l=>lg l
  |.fn _ l=>AY l
def iq.val:(s:iq)->s.den->Arg
 |.v s,x=>.sv (s.val x)
 |.kp l,x=>.kp (gY l x)
 |.fn f l,x=>.fn f (I5 l x)
def iq.read:(s:iq)->Arg->Option s.den
 |.v s,.sv x=>s.read x
 |.kp l,.kp xs=>jJ l xs
 |.fn f l,.fn g xs=>match Nat.beq f g with|true=>EU l xs|false=>none
 |_,_=>none
theorem iq.weak{X:V}(s:iq)(x:Arg)(d:s.den)(v:Value)(hr:s.read x=some d)(hv:qc X x v):qc X (s.val d) v:=by
 unfold iq.read at hr;split at hr
 .exact pF.weak _ _ _ _ hr hv
 .obtain⟨b,e,hk⟩:=hv;exact⟨b,e,ae9 hr hk⟩
 .split at hr
  .next hb=>obtain⟨us,e,hk⟩:=hv;rw[iq.val,arl hb];exact⟨us,e,Vk _ _ _ _ hr hk⟩
  .cases hr
 .cases hr
@[reducible] def jZ:List iq->Type
  |[]=>Unit
  |s::r=>s.den×jZ r
def uJ:(l:List iq)->jZ l->List Arg
 |[],_=>[]
 |s::r,x=>s.val x.1::uJ r x.2
def Gj:(l:List iq)->List Arg->Option (jZ l)
 |[],[]=>some ()
 |s::r,x::xs=>match s.read x,Gj r xs with
  |some a,some b=>some (a,b)
  |_,_=>none
 |_,_=>none
theorem Vp{X:V}:∀(l:List iq)(xs:List Arg)(d:jZ l)(vs:List Value),Gj l xs=some d->oh X xs vs->oh X (uJ l d) vs
 |[],[],_,_,_,hv=>hv
 |s::r,x::xs,d,vs,hr,hv=>by
  rw[Gj]at hr;split at hr
  .next a b h1 h2=>
   cases hr;cases vs with
   |nil=>cases hv
   |cons v vs=>exact⟨iq.weak s x a v h1 hv.1,Vp r xs b vs h2 hv.2⟩
  .cases hr
 |[],_::_,_,_,hr,_=>by simp[Gj]at hr
 |_::_,[],_,_,hr,_=>by simp[Gj]at hr
theorem Tv:∀(l:List iq)(d:jZ l),(uJ l d).length=l.length
 |[],_=>rfl
 |_::r,d=>by simp[uJ,Tv r d.2]
def adC:(l:List (List gI))->AY l->Prop
 |[],_=>True
 |c::r,x=>XC c x.1/\adC r x.2
def iq.rF:(s:iq)->s.den->Prop
 |.v s,x=>s.rF x
 |.kp l,x=>XC l x
 |.fn _ l,x=>adC l x
def J6:(l:List iq)->jZ l->Prop
 |[],_=>True
 |s::r,x=>s.rF x.1/\J6 r x.2
theorem YG{X:V}:∀(l:List (List gI))(x:AY l)(us:List Value),eX X (I5 l x) us->adC l x
 |[],_,_,_=>trivial
 |c::r,x,u::us,h=>by
  obtain⟨⟨b,hu,arr,t,fz,hf,hh,hc⟩,h2⟩:=h;exact⟨I9 c x.1 _ hc,YG r x.2 us h2⟩
 |_::_,_,[],h=>by cases h
theorem Cb{X:V}:∀(l:List iq)(x:jZ l)(vs:List Value),oh X (uJ l x) vs->J6 l x
 |[],_,_,_=>trivial
 |.v (.one c)::r,x,v::vs,h=>⟨gI.XD c x.1 v h.1,Cb r x.2 vs h.2⟩
 |.v (.agg l)::r,x,v::vs,h=>by
  obtain⟨ws,hv,hc⟩:=h.1;exact⟨I9 l x.1 _ hc,Cb r x.2 vs h.2⟩
 |.kp l::r,x,v::vs,h=>by
  obtain⟨b,hu,arr,t,fz,hf,hh,hc⟩:=h.1;exact⟨I9 l x.1 _ hc,Cb r x.2 vs h.2⟩
 |.fn f l::r,x,v::vs,h=>by
  obtain⟨us,hv,hk⟩:=h.1;exact⟨YG l x.1 _ hk,Cb r x.2 vs h.2⟩
 |_::_,_,[],h=>by cases h
def EK(sh:List iq)(F:jZ sh->Prop×Out):KZ:=λargs=>
 match Gj sh args with
 |some x=>some (F x)
 |none=>none
def zO:List SV->List (Bool×List fG)
 |[]=>[]
 |v::vs=>outOf v::zO vs
theorem PD:∀(k:Nat)(vs:List SV),iy k (zO vs)=(vs,[])
 |_,[]=>rfl
 |k,v::vs=>by simp only[zO,iy,aim,PD,ash]
def abd(Θ:jk)(rv:List ResultVar)(cO:List pF)(K:qB cO->Prop)(e:Exit)(st:St):Prop:=
 match e with
 |.normal|.ret=>match LD Θ (st.freeze (NJ st)) rv with
  |some vs=>match Pz cO (vs.map (SV.kill λ_=>true))with
   |some d=>K d
   |none=>False
  |none=>False
 |_=>False
theorem ano{G:jF}(hE:EnvB P G Θ Γ)(hm:P.follows .mixedOrders=true){f:FuncId}{fn:Func}{c:Code}(hf:P.funcs[f]? =some fn)(hb:fn.body=some c)(H:Hints){con:KZ}{cO:List pF}
 (hwalk:∀args p out,con args=some (p,out)->p->Nat.ble args.length fn.ntmps=true/\∃d:qB cO,out=⟨zO (qP cO d),none⟩/\Gi Θ Γ H c (abd Θ fn.results.toList cO λy=>y=d) (entry fn.ntmps args)):nG P G f con:=by
 intro args p out k S vs w hcon hp hG hrep;obtain⟨hn,d,hout,hw⟩:=hwalk args p out hcon hp;subst hout;have hn':args.length<=fn.ntmps:=by simpa[atI]using hn
 refine calls_of_wp hf hb (Vo ⟨hE,hG,λb hb=>hb.elim⟩ hm H c _ _ _ _ _ _ (ak3 (S:=S) fn.ntmps hn' hrep) hw ?_);have hret:∀s γ' a' w',abd Θ fn.results.toList cO (λy=>y=d) .ret s->Rel w (λ_=>False) ⟨S,λ_=>none,λ_ _ h=>by cases h⟩ γ' s a' w'->bodyPost P fn (λe w'=>∃v vals,e=.returned v/\w'.os=w.os/\w'.tape=w.tape/\w'.output=w.output/\w.heap.size<=w'.heap.size/\
  (∀b,b<w.heap.size->w'.heap[b]? =w.heap[b]?)/\
  aZ ⟨w',w.heap.size,S,vals,look (Out.take k ⟨zO (qP cO d),none⟩).2⟩ (Out.take k ⟨zO (qP cO d),none⟩).1 v/\
  (∀o x,look (Out.take k ⟨zO (qP cO d),none⟩).2 o=some x->bK ⟨w',w.heap.size,S,vals,look (Out.take k ⟨zO (qP cO d),none⟩).2⟩ o x/\∀b,blk (vals o)=some b->w.heap.size<=b/\b<w'.heap.size)/\
  (∀o x q y b,look (Out.take k ⟨zO (qP cO d),none⟩).2 o=some x->look (Out.take k ⟨zO (qP cO d),none⟩).2 q=some y->o≠q->blk (vals o)=some b->blk (vals q)≠some b)) .ret a' w':=by
  intro s γ' a' w' he hR;refine⟨hR.defers,?_⟩;simp only[abd]at he;split at he
  .next svs hvs=>
   split at he
   .next y hy=>
    subst he;have hRf:=hR.freeze (NJ s);obtain⟨us,hus,hrs⟩:=LG hE.types hRf _ _ hvs;have hk0:=dU.kill (λ_=>true) hRf svs us hrs;have hk:=ak4 cO _ y us hy hk0;have htake:Out.take k ⟨zO (qP cO y),none⟩=(match qP cO y with|[v]=>.sv v|l=>.lV l,[]):=by unfold Out.take;simp only[PD];rcases qP cO y with _|⟨v,_|⟨v2,r⟩⟩<;>rfl
    have hmap:(fn.results.mapM (I8 a'.tmps)).run P w'=.ok us.toArray w':=by rw[atX,Sem.run_map,hus];rfl
    refine⟨if h:us.toArray.size=1 then us.toArray[0]else .tuple us.toArray,?_,_,γ',rfl,hR.os,hR.tape,hR.output,hR.grow,λb hb=>hR.kept b hb (λh=>h),?_,?_,?_⟩
    .rw[QY,arJ,hmap];simp only[asa,asu]
    .rw[htake];have hl:=dU.length _ _ hk
     match hm:qP cO y,us,hk,hl with
     |[v],[u],hk,_=>exact hk.1
     |[],[],hk,_=>exact⟨_,by simp,hk⟩
     |v::v2::r,u::u2::us,hk,hl=>exact⟨_,by simp,hk⟩
     |[],_::_,hk,h4|_::_,[],hk,h4|[_],_::_::_,hk,h4|_::_::_,[_],hk,h4=>simp at h4
    .intro o x hx;rw[htake]at hx;cases hx
    .intro o x q y b hx;rw[htake]at hx;cases hx
   .exact he.elim
  .exact he.elim
 intro e s γ' a' w' he hR;cases e with
 |normal=>exact hret s γ' a' w' he hR
 |ret=>exact hret s γ' a' w' he hR
 |_=>exact he.elim
def vH(sh:List iq)(cO:List pF)(F:jZ sh->Prop×qB cO):KZ:=EK sh λx=>((F x).1,⟨zO (qP cO (F x).2),none⟩)
theorem adD{G:jF}(hE:EnvB P G Θ Γ)(hm:P.follows .mixedOrders=true){f:FuncId}{fn:Func}{c:Code}(hf:P.funcs[f]? =some fn)(hb:fn.body=some c)(H:Hints)
 {sh:List iq} {cO:List pF} {F:jZ sh->Prop×qB cO} (hn:Nat.ble sh.length fn.ntmps=true)
 (hwalk:∀x,J6 sh x->(F x).1->Gi Θ Γ H c (abd Θ fn.results.toList cO λy=>y=(F x).2) (entry fn.ntmps (uJ sh x))):nG P G f (vH sh cO F):=by
 have base:∀x,J6 sh x->nG P G f (λargs=>@ite _ (args=uJ sh x) (Classical.propDecidable _) (some ((F x).1,⟨zO (qP cO (F x).2),none⟩)) none):=by
  intro x hin;refine ano (cO:=cO) hE hm hf hb H ?_;intro args p out hcon hp;split at hcon
  .next e=>
   have hF:((F x).1,(⟨zO (qP cO (F x).2),none⟩:Out))=(p,out):=by simpa using hcon
   have h1:(F x).1=p:=congrArg Prod.fst hF;have h2:(⟨zO (qP cO (F x).2),none⟩:Out)=out:=congrArg Prod.snd hF;have:=hwalk x hin (by rw[h1];exact hp);rw[e];exact⟨by rw[Tv];exact hn,(F x).2,h2.symm,this⟩
  .cases hcon
 intro args p out k S vs w hcon hp hG hrep;unfold vH EK at hcon;split at hcon
 .next x hx=>have hv:=Vp sh args x vs.toList hx hrep;exact base x (Cb sh x _ hv) (uJ sh x) p out k S vs w (by simp only[if_true];exact hcon) hp hG hv
 .cases hcon
inductive RC where
 |c (s:gI)
 |own (e:TypeId) (r:aB) (fr:Bool)
@[reducible] def RC.den:RC->Type
  |.c s=>s.den
  |.own _ r _=>List r.den
@[reducible] def abe:List RC->Type
  |[]=>Unit
  |c::r=>c.den×abe r
def RC.ajS:(c:RC)->c.den->fG
 |.c s,x=>.plain (s.cell x)
 |.own e r fr,l=>.own e r l fr
def adE:(l:List RC)->abe l->List fG
 |[],_=>[]
 |c::r,x=>c.ajS x.1::adE r x.2
inductive pW where
 |one (c:RC)
 |agg (l:List RC)
@[reducible] def pW.den:pW->Type
  |.one c=>c.den
  |.agg l=>abe l
@[reducible] def lT:List pW->Type
  |[]=>Unit
  |s::r=>s.den×lT r
def pW.out:(s:pW)->s.den->Bool×List fG
 |.one c,x=>(false,[c.ajS x])
 |.agg l,x=>(true,adE l x)
def iE:(l:List pW)->lT l->List (Bool×List fG)
 |[],_=>[]
 |s::r,x=>s.out x.1::iE r x.2
def RC.name:RC->Cell->Option Nat
 |.own _ _ _,.ref o=>some o
 |_,_=>none
def adF:List RC->List Cell->List (Option Nat)
 |c::r,x::xs=>c.name x::adF r xs
 |_,_=>[]
def pW.names:pW->SV->List (Option Nat)
 |.one c,.one x=>[c.name x]
 |.agg l,.agg xs=>adF l xs
 |_,_=>[]
def AZ:List pW->List SV->List (Option Nat)
 |s::r,x::xs=>s.names x++AZ r xs
 |_,_=>[]
def RC.read(st:St):(c:RC)->Cell->Option c.den
 |.c s,x=>match x.refs with|[]=>s.read x|_=>none
 |.own e r fr,.ref o=>match st.ah o with
  |some (.arr f s l g)=>match Nat.beq e f&&LC fr g with
   |true=>if h:s.beq r=true then some (tX h l)else none
   |false=>none
  |_=>none
 |.own _ r _,.nil=>match Nat.ble 1 r.len with|true=>some []|false=>none
 |_,_=>none
def PE(st:St):(l:List RC)->List Cell->Option (abe l)
 |[],[]=>some ()
 |c::r,x::xs=>match c.read st x,PE st r xs with
  |some a,some b=>some (a,b)
  |_,_=>none
 |_,_=>none
def pW.read(st:St):(s:pW)->SV->Option s.den
 |.one c,.one x=>c.read st x
 |.agg l,.agg xs=>PE st l xs
 |_,_=>none
def Cc(st:St):(l:List pW)->List SV->Option (lT l)
 |[],[]=>some ()
 |s::r,x::xs=>match s.read st x,Cc st r xs with
  |some a,some b=>some (a,b)
  |_,_=>none
 |_,_=>none
inductive fV where
 |p (s:iq)
 |own (e:TypeId) (r:aB)
 |ptr (l:List gI)
@[reducible] def fV.den:fV->Type
  |.p s=>s.den
  |.own _ r=>List r.den
  |.ptr l=>lg l
def fV.mode:fV->Mode
 |.p _=>.val
 |.own _ _=>.own
 |.ptr _=>.ptr
def fV.val:(s:fV)->s.den->Arg
 |.p s,x=>s.val x
 |.own e r,l=>.own e r l
 |.ptr l,x=>.ptr (gY l x)
def fV.read:(s:fV)->Arg->Option s.den
 |.p s,x=>s.read x
 |.own e r,.own f s l=>match Nat.beq e f with
  |true=>if h:s.beq r=true then some (tX h l)else none
  |false=>none
 |.ptr l,.ptr cs=>jJ l cs
 |_,_=>none
@[reducible] def jq:List fV->Type
  |[]=>Unit
  |s::r=>s.den×jq r
def rZ:(l:List fV)->jq l->List Arg
 |[],_=>[]
 |s::r,x=>s.val x.1::rZ r x.2
def iF:(l:List fV)->List Arg->Option (jq l)
 |[],[]=>some ()
 |s::r,x::xs=>match s.read x,iF r xs with
  |some a,some b=>some (a,b)
  |_,_=>none
 |_,_=>none
@[reducible] def kY:List fV->Type
  |[]=>Unit
  |.ptr l::r=>lg l×kY r
  |.p _::r|.own _ _::r=>kY r
def iG:(l:List fV)->kY l->List Eff
 |[],_=>[]
 |.ptr l::r,x=>.var (gY l x.1)::iG r x.2
 |.p _::r,x|.own _ _::r,x=>.lose::iG r x
def Ja(st:St):(i:Nat)->(l:List fV)->Option (kY l)
 |_,[]=>some ()
 |i,.ptr l::r=>match st.ah (i*64+48),Ja st (i+1) r with
  |some (.var cs),some b=>match cs.flatMap Cell.refs,jJ l cs with
   |[],some a=>some (a,b)
   |_,_=>none
  |_,_=>none
 |i,.p _::r|i,.own _ _::r=>Ja st (i+1) r
def Arg.avX(i:Nat):Arg->AV
 |.own _ _ _=>.sv (.one (.ref (i*64+49)))
 |.ptr _=>.bG (i*64+48) 0
 |a=>a.av
def Eg(n:Nat)(args:List Arg):St:=
 {n:=n,tmps:=λt=>match args[t]? with|some v=>v.avX t|none=>.undef,ah:=dw args}
def abf(st:St)(W:List (Option Nat))(o:Nat):Bool:=NJ st o&&!(UZ o W)
def agl(Θ:jk)(rv:List ResultVar)(sh:List fV)(cO:List pW)(K:lT cO×kY sh->Prop)(e:Exit)(st:St):Prop:=
 match e with
 |.normal|.ret=>match LD Θ st rv with
  |some svs=>match LD Θ (st.freeze (abf st (AZ cO svs))) rv with
   |some vs=>match yJ (AZ cO vs),Cc (st.freeze (abf st (AZ cO svs))) cO vs,Ja (st.freeze (abf st (AZ cO svs))) 0 sh with
    |true,some d,some b=>K (d,b)
    |_,_,_=>False
   |none=>False
  |none=>False
 |_=>False
def pK(sh:List fV)(cO:List pW)(F:jq sh->Prop×(lT cO×kY sh->Prop)):FT:=λargs=>
 match iF sh args with
 |some x=>some ((F x).1,⟨lT cO×kY sh,(F x).2,λt=>⟨iE cO t.1,none⟩,λt=>iG sh t.2⟩)
 |none=>none
def IZ(sh:List fV):List Mode:=sh.map fV.mode
end Go.Fw
namespace Go.Fw
open Go
variable {P:Program} {w0:World} {M:Nat->Prop} {T:Ext} {γ γ':Nat->Value} {st:St} {a:Act} {w w':World} {Θ:jk} {Γ:kz}
def adG(args:List Arg)(γ:Nat->Value)(o:Nat):Option Value:=match dw args o with|some (.var _)=>some (γ o)|_=>none
theorem al6{args:List Arg}{o:Nat}{cs:List Cell}(h:dw args o=some (.var cs)):o%64=48:=by
 unfold dw at h;split at h
 .split at h<;>cases h
 .split at h
  .next hm=>exact arl hm
  .cases h
 .cases h
def Vq(args:List Arg)(γ:Nat->Value)(S:Nat->Prop):Ext where
 S:=λb=>S b\/uI (dw args) γ b
 N:=adG args γ
 n48:=by
  intro p v h;unfold adG at h;split at h
  .next cs hc=>exact al6 hc
  .cases h
theorem wV.get{X:V}:∀(as:List Arg)(vs:List Value)(i:Nat),wV X i as vs->as.length=vs.length/\∀(j:Nat)(b:Arg),as[j]? =some b->∃v,vs[j]? =some v/\Ll X (i+j) b v
 |[],[],_,_=>⟨rfl,λj b h=>by simp at h⟩
 |x::as,v::vs,i,⟨h1,h2⟩=>by
  obtain⟨g1,g2⟩:=wV.get as vs (i+1) h2;refine⟨by simp[g1],λj b hb=>?_⟩;cases j with
  |zero=>simp at hb;subst hb;exact⟨v,rfl,h1⟩
  |succ j=>
   obtain⟨u,hu,hr⟩:=g2 j b (by simpa using hb);exact⟨u,by simpa using hu,by rw[show i+(j+1)=i+1+j by omega];exact hr⟩
 |[],_::_,_,H|_::_,[],_,H=>by cases H
theorem Ll.av{X:V}(i:Nat):∀(c:Arg)(v:Value),Ll X i c v->aZ X (c.avX i) v
 |.own _ _ _,_,h=>h
 |.ptr _,_,h=>h
 |.sv _,_,h|.kp _,_,h|.fn _ _,_,h=>h
theorem abg{args:List Arg}{vs:Array Value}{S:Nat->Prop}(n:Nat)(hn:args.length<=n)
 (h:wV ⟨w,w.heap.size,S,γ,dw args⟩ 0 args vs.toList)
 (ho:∀o x,dw args o=some x->bK ⟨w,w.heap.size,S,γ,dw args⟩ o x/\∀b,blk (γ o)=some b->b<w.heap.size)
 (hs:∀o x q y b,dw args o=some x->dw args q=some y->o≠q->blk (γ o)=some b->blk (γ q)≠some b):
 Rel w (uI (dw args) γ) (Vq args γ S) γ (Eg n args) {tmps:=vs++Array.replicate (n-vs.size) undef,defers:=[]} w:=by
 obtain⟨hl0,hget⟩:=wV.get _ _ 0 h;have hl:vs.size=args.length:=by simpa using hl0.symm
 have le:V.le ⟨w,w.heap.size,S,γ,dw args⟩ ⟨w,w.heap.size,(Vq args γ S).S,γ,dw args⟩:=
  ⟨arF _,λb hb=>⟨⟨hb.1,λhlt=>.inl (hb.2.1 hlt),hb.2.2⟩,rfl⟩,λo cs hx=>⟨⟨cs,hx⟩,rfl⟩,λo e r l fr hx=>⟨⟨l,fr,hx⟩,rfl⟩⟩
 refine⟨λb hb=>.inr hb,rfl,?_,rfl,rfl,rfl,arF _,λ_ _ _=>rfl,λt=>?_,λo x hx=>bK.mono le o x (λ_ _=>rfl) rfl (ho o x hx).1,λo x b hx hb=>⟨(ho o x hx).2 b hb,.inr ⟨o,x,hx,hb⟩⟩,λo x p y b hx hy hop hb=>hs o x p y b hx hy hop hb,λo v cs hN hx=>?_⟩
 .simp[Eg];omega
 .simp only[Eg];cases ha:args[t]? with
  |none=>trivial
  |some v=>
   obtain⟨u,hu,hr⟩:=hget t v ha;have:(vs++Array.replicate (n-vs.size) undef).getD t undef=u:=by
    have hlt:t<args.length:=by
     rcases arH t args.length with h'|h'
     .exact h'
     .rw[asi h']at ha;cases ha
    have hlt':t<vs.size:=by omega
    rw[ate,asI hlt'];have:vs[t]? =some u:=by simpa using hu
    rw[this];rfl
   rw[this];rw[arQ]at hr;exact aZ.mono le _ _ (Ll.av t v u hr)
 .have hx':dw args o=some (.var cs):=hx;have hN':adG args γ o=some v:=hN;unfold adG at hN';rw[hx']at hN';exact Option.some.inj hN'
def AW(a a':Arg):Prop:=
 (∃e r l,a=.own e r l/\a'=.own e r l)\/(∃cs cs',a=.ptr cs/\a'=.ptr cs'/\∀(X:V) vs,ai X cs vs->ai X cs' vs)\/
 ((∀(X:V) v,aZ X a.av v->aZ X a'.av v)/\(∀i,a.avX i=a.av)/\(∀i,a'.avX i=a'.av)/\(∀e r l,a≠ .own e r l)/\(∀cs,a≠ .ptr cs)/\(∀e r l,a'≠ .own e r l)/\(∀cs,a'≠ .ptr cs))
theorem iq.ajT{s:iq}{x:Arg}{d:s.den}(h:s.read x=some d):AW x (s.val d):=by
 refine .inr (.inr ⟨λX v hv=>?_,?_⟩)
 .have hx:qc X x v:=by
   cases x with
   |sv _|kp _|fn _ _=>exact hv
   |own _ _ _|ptr _=>cases s<;>simp[iq.read]at h
  exact qc.av _ _ (iq.weak s x d v h hx)
 .cases x<;>cases s<;>first
   |(simp[iq.read]at h;done)
   |exact⟨λ_=>rfl,λ_=>rfl,(λ_ _ _ e=>by cases e),(λ_ e=>by cases e),(λ_ _ _ e=>by cases e),(λ_ e=>by cases e)⟩
theorem fV.ajT{s:fV}{x:Arg}{d:s.den}(h:s.read x=some d):AW x (s.val d):=by
 unfold fV.read at h;split at h
 .exact iq.ajT h
 .next e r f s l=>
  split at h
  .next hb=>
   split at h
   .next hs=>cases h;have he:=arl hb;subst he;have hsr:=aB.eq_of_beq s r hs;subst hsr;exact .inl ⟨e,s,l,rfl,rfl⟩
   .cases h
  .cases h
 .next l cs=>exact .inr (.inl ⟨cs,_,rfl,rfl,λX vs hc=>Ee _ _ _ _ h hc⟩)
 .cases h
theorem J7:∀{l:List fV}{xs:List Arg}{d:jq l},iF l xs=some d->(rZ l d).length=xs.length/\∀(i:Nat)(a:Arg),xs[i]? =some a->∃a',(rZ l d)[i]? =some a'/\AW a a'
 |[],[],_,_=>⟨rfl,λi a h=>by simp at h⟩
 |s::r,x::xs,d,h=>by
  rw[iF]at h;split at h
  .next a b h1 h2=>
   cases h;obtain⟨g1,g2⟩:=J7 h2;refine⟨by simp[rZ,g1],λi c hc=>?_⟩;cases i with
   |zero=>simp at hc;subst hc;exact⟨_,rfl,fV.ajT h1⟩
   |succ i=>obtain⟨c',k1,k2⟩:=g2 i c (by simpa using hc);exact⟨c',by simpa[rZ]using k1,k2⟩
  .cases h
 |[],_::_,_,h=>by simp[iF]at h
 |_::_,[],_,h=>by simp[iF]at h
theorem NM{args:List Arg}{o:Nat}(h:∀b,args[o / 64]? =some b->(∀e r l,b≠ .own e r l)/\∀cs,b≠ .ptr cs):dw args o=none:=by
 unfold dw;split
 .next e r l ha=>exact((h _ ha).1 e r l rfl).elim
 .next cs ha=>exact((h _ ha).2 cs rfl).elim
 .rfl
theorem Tz{sh:List fV}{args:List Arg}{x:jq sh}(h:iF sh args=some x)(n:Nat):Covers (Eg n (rZ sh x)) (Eg n args):=by
 obtain⟨hl,hget⟩:=J7 h;refine⟨rfl,λt X v hv=>?_,λo=>?_⟩
 .simp only[Eg]at hv ⊢;cases ha:args[t]? with
  |none=>
   have:(rZ sh x)[t]? =none:=by rw[auK]at ha ⊢;omega
   rw[this];trivial
  |some b=>
   obtain⟨b',hb',hw⟩:=hget t b ha;rw[ha]at hv;rw[hb'];dsimp only at hv ⊢;rcases hw with⟨e,r,l,rfl,rfl⟩|⟨cs,cs',rfl,rfl,_⟩|⟨hw,e1,e2,_⟩
   .exact hv
   .exact hv
   .rw[e1]at hv;rw[e2];exact hw X v hv
 .show(dw (rZ sh x) o=none/\dw args o=none)\/∃y y',dw args o=some y/\dw (rZ sh x) o=some y'/\Ib y y';cases ha:args[o / 64]? with
  |none=>
   have h2:(rZ sh x)[o / 64]? =none:=by rw[auK]at ha ⊢;omega
   exact .inl ⟨NM (by rw[h2];intro b hb;cases hb),NM (by rw[ha];intro b hb;cases hb)⟩
  |some b=>
   obtain⟨b',hb',hw⟩:=hget _ b ha;rcases hw with⟨e,r,l,rfl,rfl⟩|⟨cs,cs',rfl,rfl,hc⟩|⟨_,_,_,n1,n2,n3,n4⟩
   .unfold dw;rw[ha,hb'];dsimp only;cases hm:Nat.beq (o%64) 49 with
    |true=>exact .inr ⟨_,_,rfl,rfl,.inr ⟨e,r,l,false,false,rfl,rfl,id⟩⟩
    |false=>exact .inl ⟨rfl,rfl⟩
   .unfold dw;rw[ha,hb'];dsimp only;cases hm:Nat.beq (o%64) 48 with
    |true=>exact .inr ⟨_,_,rfl,rfl,.inl ⟨cs,cs',rfl,rfl,hc⟩⟩
    |false=>exact .inl ⟨rfl,rfl⟩
   .exact .inl ⟨NM (by rw[hb'];intro c hc;cases hc;exact⟨n3,n4⟩),NM (by rw[ha];intro c hc;cases hc;exact⟨n1,n2⟩)⟩
theorem YH(a b:List (Nat×aG))(p:Nat):look (a++b) p=match look b p with|some y=>some y|none=>look a p:=by
 induction a with
 |nil=>simp only[asE,look];cases look b p<;>rfl
 |cons x a ih=>obtain⟨o,z⟩:=x;rw[as1,look,ih,look];cases look b p<;>rfl
theorem tY:∀(cs:List fG)(k p:Nat)(x:aG),look (jI k cs).2 p=some x↔∃i e r l fr,p=k+i/\cs[i]? =some (.own e r l fr)/\x=.arr e r l fr
 |[],k,p,x=>by simp[jI,look]
 |c::cs,k,p,x=>by
  rw[jI,YH];have ih:=tY cs (k+1) p x;constructor
  .intro h;split at h
   .next y hy=>cases h;obtain⟨i,e,r,l,fr,h1,h2,h3⟩:=(tY cs (k+1) p x).1 hy;exact⟨i+1,e,r,l,fr,by omega,by simpa using h2,h3⟩
   .next hn=>
    cases c with
    |plain c=>simp[fG.take,look]at h
    |own e r l fr=>
     simp only[fG.take,look]at h;split at h
     .next hb=>cases h;exact⟨0,e,r,l,fr,by have:=arl hb;omega,rfl,rfl⟩
     .cases h
  .rintro⟨i,e,r,l,fr,h1,h2,rfl⟩;cases i with
   |succ i=>
    have:=(tY cs (k+1) p (.arr e r l fr)).2 ⟨i,e,r,l,fr,by omega,by simpa using h2,rfl⟩;rw[this]
   |zero=>
    simp at h2;subst h2;have hn:look (jI (k+1) cs).2 p=none:=by
     cases hl:look (jI (k+1) cs).2 p with
     |none=>rfl
     |some y=>obtain⟨i,_,_,_,_,g1,_⟩:=(tY cs (k+1) p y).1 hl;omega
    rw[hn];have hp:p=k:=by omega
    subst hp;simp[fG.take,look]
def J8(rs:List (Bool×List fG)):List fG:=rs.flatMap (·.2)
theorem ain(k:Nat)(x:Bool×List fG):(vS k x).2=(jI k x.2).2:=by
 unfold vS;split
 .next e1 e2=>rw[e2]
 .next e1 e2=>rw[e2]
 .next e1 e2=>rw[e2]
theorem Ap:∀(rs:List (Bool×List fG))(k p:Nat)(x:aG),look (iy k rs).2 p=some x↔∃i e r l fr,p=k+i/\(J8 rs)[i]? =some (.own e r l fr)/\x=.arr e r l fr
 |[],k,p,x=>by simp[iy,look,J8]
 |y::rs,k,p,x=>by
  rw[iy,YH,ain];have ajU:J8 (y::rs)=y.2++J8 rs:=rfl;constructor
  .intro h;split at h
   .next z hz=>cases h;obtain⟨i,e,r,l,fr,h1,h2,h3⟩:=(Ap rs (k+y.2.length) p x).1 hz;refine⟨y.2.length+i,e,r,l,fr,by omega,?_,h3⟩;rw[ajU,arO (by omega)];simpa using h2
   .obtain⟨i,e,r,l,fr,h1,h2,h3⟩:=(tY y.2 k p x).1 h;refine⟨i,e,r,l,fr,h1,?_,h3⟩;rw[ajU,arX (arz.1 h2).1];exact h2
  .rintro⟨i,e,r,l,fr,h1,h2,rfl⟩;rw[ajU]at h2;rcases arH i y.2.length with hlt|hge
   .rw[arX hlt]at h2;have hn:look (iy (k+y.2.length) rs).2 p=none:=by
     cases hl:look (iy (k+y.2.length) rs).2 p with
     |none=>rfl
     |some z=>obtain⟨j,_,_,_,_,g1,_⟩:=(Ap rs (k+y.2.length) p z).1 hl;omega
    rw[hn];exact(tY y.2 k p _).2 ⟨i,e,r,l,fr,h1,h2,rfl⟩
   .rw[arO hge]at h2;have:=(Ap rs (k+y.2.length) p (.arr e r l fr)).2 ⟨i-y.2.length,e,r,l,fr,by omega,h2,rfl⟩;rw[this]
end Go.Fw
namespace Go.Fw
open Go
set_option linter.unusedVariables false
variable {P:Program} {w0:World} {M:Nat->Prop} {T:Ext} {γ γ':Nat->Value} {st:St} {a:Act} {w w':World} {Θ:jk} {Γ:kz}
def RF(Y:V)(c:fG)(v:Value)(n:Option Nat):Prop:=
 match c with
 |.plain x=>aS Y x v/\x.refs=[]
 |.own e r l fr=>0<r.len/\((∃o g,n=some o/\Y.ah o=some (.arr e r l g)/\LC fr g=true/\v=Y.γ o/\v.oneCell'=true)\/(l=[]/\v=.slice none 0 0))
def Eh(Y:V):List fG->List Value->List (Option Nat)->Prop
 |[],[],[]=>True
 |c::cs,v::vs,n::ns=>RF Y c v n/\Eh Y cs vs ns
 |_,_,_=>False
theorem Eh.append{Y:V}:∀(cs:List fG)(vs:List Value)(ns:List (Option Nat))(ds:List fG)(us:List Value)(ms:List (Option Nat)),Eh Y cs vs ns->Eh Y ds us ms->Eh Y (cs++ds) (vs++us) (ns++ms)
 |[],[],[],_,_,_,_,h=>h
 |_::cs,_::vs,_::ns,ds,us,ms,⟨h1,h2⟩,h=>⟨h1,Eh.append cs vs ns ds us ms h2 h⟩
theorem Eh.length{Y:V}:∀(cs:List fG)(vs:List Value)(ns:List (Option Nat)),Eh Y cs vs ns->cs.length=vs.length
 |[],[],[],_=>rfl
 |_::cs,_::vs,_::ns,⟨_,h2⟩=>by simp[Eh.length cs vs ns h2]
theorem Eh.get{Y:V}:∀(cs:List fG)(vs:List Value)(ns:List (Option Nat))(i:Nat)(c:fG),Eh Y cs vs ns->cs[i]? =some c->∃v n,vs[i]? =some v/\ns[i]? =some n/\RF Y c v n
 |[],[],[],i,c,_,h=>by simp at h
 |x::cs,v::vs,n::ns,0,c,⟨h1,_⟩,h=>by simp at h;subst h;exact⟨v,n,rfl,rfl,h1⟩
 |x::cs,v::vs,n::ns,i+1,c,⟨_,h2⟩,h=>by obtain⟨u,m,g1,g2,g3⟩:=Eh.get cs vs ns i c h2 (by simpa using h);exact⟨u,m,by simpa using g1,by simpa using g2,g3⟩
theorem gI.afc(c:gI)(x:Cell)(d:c.den)(h:c.read x=some d)(hx:x.refs=[]):(c.cell d).refs=[]:=by cases c<;>cases x<;>first|rfl|(simp[gI.read]at h;done)|(cases hx)
theorem RC.aiX{Y:V}(hst:Y.ah=st.ah)(hpos:∀o e r l g,st.ah o=some (.arr e r l g)->0<r.len):∀(c:RC)(x:Cell)(d:c.den)(v:Value),c.read st x=some d->aS Y x v->RF Y (c.ajS d) v (c.name x):=by
 intro c x d v hr hv;cases c with
 |c s=>
  rw[RC.read]at hr;split at hr
  .next hx=>exact⟨gI.weak s x d v hr hv,gI.afc s x d hr hx⟩
  .cases hr
 |own e r fr=>
  cases x with
  |ref o=>
   simp only[RC.read]at hr;split at hr
   .next f s l g ho=>
    split at hr
    .next hb=>
     split at hr
     .next hs=>cases hr;rw[ark]at hb;have he:=arl hb.1;subst he;have hsr:=aB.eq_of_beq s r hs;subst hsr;exact⟨hpos _ _ _ _ _ ho,.inl ⟨o,g,rfl,by rw[hst];exact ho,hb.2,hv.2.1,hv.2.2⟩⟩
     .cases hr
    .cases hr
   .cases hr
  |nil=>
   simp only[RC.read]at hr;split at hr
   .next hb=>cases hr;exact⟨asg Nat.zero_lt_one (by simpa[atI]using hb),.inr ⟨rfl,hv⟩⟩
   .cases hr
  |_=>simp[RC.read]at hr
theorem abh{Y:V}(hst:Y.ah=st.ah)(hpos:∀o e r l g,st.ah o=some (.arr e r l g)->0<r.len):∀(l:List RC)(xs:List Cell)(d:abe l)(vs:List Value),PE st l xs=some d->ai Y xs vs->Eh Y (adE l d) vs (adF l xs)
 |[],[],_,[],_,_=>trivial
 |c::r,x::xs,d,v::vs,h,⟨h1,h2⟩=>by
  rw[PE]at h;split at h
  .next a b g1 g2=>cases h;exact⟨RC.aiX hst hpos c x a v g1 h1,abh hst hpos r xs b vs g2 h2⟩
  .cases h
 |[],_::_,_,_,h,_=>by simp[PE]at h
 |_::_,[],_,_,h,_=>by simp[PE]at h
theorem pW.ag4{Y:V}(hst:Y.ah=st.ah)(hpos:∀o e r l g,st.ah o=some (.arr e r l g)->0<r.len):∀(s:pW)(x:SV)(d:s.den)(v:Value),s.read st x=some d->dQ Y x v->Eh Y (s.out d).2 v.cells.toList (s.names x)
 |.one c,.one x,d,v,h,hv=>by
  rw[FZ v (aS.one x v hv)];exact⟨RC.aiX hst hpos c x d v h hv,trivial⟩
 |.agg l,.agg xs,d,v,h,⟨vs,hv,hc⟩=>by
  rw[hv];exact abh hst hpos l xs d _ h hc
 |.one _,.agg _,_,_,h,_|.agg _,.one _,_,_,h,_=>by simp[pW.read]at h
theorem abj{Y:V}(hst:Y.ah=st.ah)(hpos:∀o e r l g,st.ah o=some (.arr e r l g)->0<r.len):∀(l:List pW)(xs:List SV)(d:lT l)(vs:List Value),Cc st l xs=some d->dU Y xs vs->
 Eh Y (J8 (iE l d)) (vs.flatMap λv=>v.cells.toList) (AZ l xs)
 |[],[],_,[],_,_=>trivial
 |s::r,x::xs,d,v::vs,h,⟨h1,h2⟩=>by
  rw[Cc]at h;split at h
  .next a b g1 g2=>cases h;exact Eh.append _ _ _ _ _ _ (pW.ag4 hst hpos s x a v g1 h1) (abj hst hpos r xs b vs g2 h2)
  .cases h
 |[],_::_,_,_,h,_=>by simp[Cc]at h
 |_::_,[],_,_,h,_=>by simp[Cc]at h
def Go1(Z:V)(k:Nat)(c:fG)(v:Value):Prop:=aS Z (c.take k).1 v
def Hq(Z:V):Nat->List fG->List Value->Prop
 |_,[],[]=>True
 |k,c::cs,v::vs=>Go1 Z k c v/\Hq Z (k+1) cs vs
 |_,_,_=>False
theorem Hq.of{Z:V}:∀(cs:List fG)(vs:List Value)(k:Nat),cs.length=vs.length->(∀i c v,cs[i]? =some c->vs[i]? =some v->Go1 Z (k+i) c v)->Hq Z k cs vs
 |[],[],_,_,_=>trivial
 |c::cs,v::vs,k,hl,h=>⟨h 0 c v rfl rfl,Hq.of cs vs (k+1) (by simpa using hl) λi c' v' h1 h2=>by
   have:=h (i+1) c' v' (by simpa using h1) (by simpa using h2)
   rwa [show k+(i+1)=k+1+i by omega]at this⟩
theorem Hq.split{Z:V}:∀(cs:List fG)(vs:List Value)(ds:List fG)(us:List Value)(k:Nat),cs.length=vs.length->Hq Z k (cs++ds) (vs++us)->Hq Z k cs vs/\Hq Z (k+cs.length) ds us
 |[],[],_,_,_,_,h=>⟨trivial,h⟩
 |c::cs,v::vs,ds,us,k,hl,⟨h1,h2⟩=>by obtain⟨g1,g2⟩:=Hq.split cs vs ds us (k+1) (by simpa using hl) h2;exact⟨⟨h1,g1⟩,by rw[show k+(c::cs).length=k+1+cs.length by simp;omega];exact g2⟩
theorem Hq.cells{Z:V}:∀(cs:List fG)(vs:List Value)(k:Nat),Hq Z k cs vs->ai Z (jI k cs).1 vs
 |[],[],_,_=>trivial
 |c::cs,v::vs,k,⟨h1,h2⟩=>⟨h1,Hq.cells cs vs (k+1) h2⟩
theorem pW.go{Y Z:V}:∀(s:pW)(x:SV)(d:s.den)(v:Value)(k:Nat),s.read st x=some d->dQ Y x v->Hq Z k (s.out d).2 v.cells.toList->dQ Z (vS k (s.out d)).1 v
 |.one c,.one x,d,v,k,h,hv,hg=>by
  rw[FZ v (aS.one x v hv)]at hg;exact hg.1
 |.agg l,.agg xs,d,v,k,h,⟨vs,hv,hc⟩,hg=>by
  rw[hv]at hg ⊢;exact⟨vs,rfl,Hq.cells _ _ _ hg⟩
 |.one _,.agg _,_,_,_,h,_,_|.agg _,.one _,_,_,_,h,_,_=>by simp[pW.read]at h
theorem afd{Y Z:V}(hst:Y.ah=st.ah)(hpos:∀o e r l g,st.ah o=some (.arr e r l g)->0<r.len):∀(l:List pW)(xs:List SV)(d:lT l)(vs:List Value)(k:Nat),Cc st l xs=some d->dU Y xs vs->
 Hq Z k (J8 (iE l d)) (vs.flatMap λv=>v.cells.toList)->dU Z (iy k (iE l d)).1 vs
 |[],[],_,[],_,_,_,_=>trivial
 |s::r,x::xs,d,v::vs,k,h,⟨h1,h2⟩,hg=>by
  rw[Cc]at h;split at h
  .next a b g1 g2=>cases h;have hl:=Eh.length _ _ _ (pW.ag4 hst hpos s x a v g1 h1);obtain⟨k1,k2⟩:=Hq.split _ _ _ _ k hl hg;exact⟨pW.go s x a v k g1 h1 k1,afd hst hpos r xs b vs _ g2 h2 k2⟩
  .cases h
 |[],_::_,_,_,_,h,_,_=>by simp[Cc]at h
 |_::_,[],_,_,_,h,_,_=>by simp[Cc]at h
theorem YI:∀(l:List gI)(xs:List Cell)(d:lg l),jJ l xs=some d->xs.flatMap Cell.refs=[]->(gY l d).flatMap Cell.refs=[]
 |[],[],_,_,_=>rfl
 |c::r,x::xs,d,h,hx=>by
  rw[jJ]at h;split at h
  .next a b g1 g2=>cases h;rw[asw,asf]at hx;show(c.cell a::gY r b).flatMap Cell.refs=[];rw[asw,gI.afc c x a g1 hx.1,YI r xs b g2 hx.2,ash]
  .cases h
 |[],_::_,_,h,_=>by simp[jJ]at h
 |_::_,[],_,h,_=>by simp[jJ]at h
theorem J9:∀(sh:List fV)(i:Nat)(b:kY sh),Ja st i sh=some b->∀(j:Nat)(e:Eff),(iG sh b)[j]? =some e->
 e=.lose\/∃l cs cs0,sh[j]? =some (.ptr l)/\e=.var cs/\st.ah ((i+j)*64+48)=some (.var cs0)/\cs0.flatMap Cell.refs=[]/\cs.flatMap Cell.refs=[]/\∀(X:V) vs,ai X cs0 vs->ai X cs vs
 |[],_,_,_,j,e,he=>by simp[iG]at he
 |.ptr l::r,i,b,h,j,e,he=>by
  rw[Ja]at h;split at h
  .next cs b' hx hb=>
   split at h
   .next a hr ha=>
    cases h;cases j with
    |zero=>
     simp[iG]at he;subst he;exact .inr ⟨l,_,cs,rfl,rfl,by simpa using hx,hr,YI _ _ _ ha hr,λX vs hc=>Ee _ _ _ _ ha hc⟩
    |succ j=>
     rcases J9 r (i+1) b' hb j e (by simpa[iG]using he)with h|⟨l,cs',cs0,h1,h2,h3,h4⟩
     .exact .inl h
     .exact .inr ⟨l,cs',cs0,by simpa using h1,h2,by rw[show i+(j+1)=i+1+j by omega];exact h3,h4⟩
   .cases h
  .cases h
 |.p _::r,i,b,h,j,e,he|.own _ _::r,i,b,h,j,e,he=>by
  rw[Ja]at h;cases j with
  |zero=>simp[iG]at he;exact .inl he.symm
  |succ j=>
   rcases J9 r (i+1) b h j e (by simpa[iG]using he)with h|⟨l,cs',cs0,h1,h2,h3,h4⟩
   .exact .inl h
   .exact .inr ⟨l,cs',cs0,by simpa using h1,h2,by rw[show i+(j+1)=i+1+j by omega];exact h3,h4⟩
theorem abk:∀{sh:List fV}{xs:List Arg}{d:jq sh},iF sh xs=some d->∀(j:Nat)(l:List gI),sh[j]? =some (.ptr l)->∃cs,xs[j]? =some (.ptr cs)
 |[],[],_,_,j,l,h=>by simp at h
 |s::r,x::xs,d,h,j,l,hj=>by
  rw[iF]at h;split at h
  .next a b h1 h2=>
   cases j with
   |zero=>
    simp at hj;subst hj;cases x with
    |ptr cs=>exact⟨cs,rfl⟩
    |_=>simp[fV.read]at h1
   |succ j=>obtain⟨cs,hc⟩:=abk h2 j l (by simpa using hj);exact⟨cs,by simpa using hc⟩
  .cases h
 |[],_::_,_,h,_,_,_=>by simp[iF]at h
 |_::_,[],_,h,_,_,_=>by simp[iF]at h
theorem ak5{sh:List fV}{b:kY sh}(hb:Ja st 0 sh=some b){q:Nat}{y:aG}(h:kK (iG sh b) q=some y):
 q%64=48/\∃l cs cs0,sh[q / 64]? =some (.ptr l)/\y=.var cs/\st.ah q=some (.var cs0)/\cs0.flatMap Cell.refs=[]/\cs.flatMap Cell.refs=[]/\∀(X:V) vs,ai X cs0 vs->ai X cs vs:=by
 unfold kK at h;split at h
 .next e r l he=>rcases J9 sh 0 b hb _ _ he with h'|⟨_,_,_,_,h',_⟩<;>cases h'
 .next cs he=>
  split at h
  .next hm=>
   have hm':=arl hm;cases h;rcases J9 sh 0 b hb _ _ he with h'|⟨l,cs',cs0,h1,h2,h3,h4⟩
   .cases h'
   .cases h2;refine⟨hm',l,_,cs0,h1,rfl,?_,h4⟩;rw[show q=(0+q / 64)*64+48 by omega];exact h3
  .cases h
 .cases h
def fV.rF:(s:fV)->s.den->Prop
 |.p s,x=>s.rF x
 |.own _ r,(l:List r.den)=>∀x∈l,r.rF x
 |.ptr l,x=>XC l x
def Ko:(l:List fV)->jq l->Prop
 |[],_=>True
 |s::r,x=>s.rF x.1/\Ko r x.2
theorem iq.XD{X:V}(s:iq)(x:Arg)(d:s.den)(v:Value)(h:s.read x=some d)(hr:qc X x v):s.rF d:=
 (Cb (X:=X) [s] (d,()) [v] ⟨iq.weak s x d v h hr,trivial⟩).1
theorem Vr{X:V}{args:List Arg}(ho:∀o x,dw args o=some x->bK X o x):∀(sh:List fV)(xs:List Arg)(d:jq sh)(vs:List Value)(i:Nat),(∀j a,xs[j]? =some a->args[i+j]? =some a)->
 iF sh xs=some d->wV X i xs vs->Ko sh d
 |[],[],_,_,_,_,_,_=>trivial
 |s::r,x::xs,d,v::vs,i,hj,h,⟨hv,hvs⟩=>by
  rw[iF]at h;split at h
  .next a b h1 h2=>
   cases h;refine⟨?_,Vr ho r xs b vs (i+1) (λj c hc=>by have:=hj (j+1) c (by simpa using hc);rwa [show i+(j+1)=i+1+j by omega]at this) h2 hvs⟩;have hx:args[i]? =some x:=hj 0 x rfl;cases s with
   |p s=>
    have h1':s.read x=some a:=by simpa[fV.read]using h1
    refine iq.XD (X:=X) s x a v h1' ?_;cases x with
    |own _ _ _|ptr _=>cases s<;>simp[iq.read]at h1'
    |_=>exact hv
   |own e r'=>
    cases x with
    |own f s' l=>
     have h1':(match Nat.beq e f with|true=>if h:s'.beq r'=true then some (tX h l)else none|false=>none)=some a:=h1;split at h1'
     .split at h1'
      .next hb hs=>
       cases h1';have hsr:=aB.eq_of_beq s' r' hs;subst hsr;have mV:dw args (i*64+49)=some (.arr f s' l false):=by unfold dw;rw[show(i*64+49) / 64=i by omega,hx];dsimp only;rw[show(i*64+49)%64=49 by omega]
       obtain⟨us,_,_,_,hrow⟩:=ho _ _ mV;intro y hy;have hy':y∈l:=hy;obtain⟨j,hj1,hj2⟩:=atM.1 hy';exact bn.rF s' _ _ (hrow j y (by rw[ars hj1,hj2]))
      .cases h1'
     .cases h1'
    |_=>simp[fV.read]at h1
   |ptr l=>
    cases x with
    |ptr cs=>
     have h1':jJ l cs=some a:=h1;have mV:dw args (i*64+48)=some (.var cs):=by unfold dw;rw[show(i*64+48) / 64=i by omega,hx];dsimp only;rw[show(i*64+48)%64=48 by omega]
     obtain⟨_,arr,_,_,_,hc⟩:=ho _ _ mV;exact I9 l a _ (Ee _ _ _ _ h1' hc)
    |_=>simp[fV.read]at h1
  .cases h
 |[],_::_,_,_,_,_,h,_=>by simp[iF]at h
 |_::_,[],_,_,_,_,h,_=>by simp[iF]at h
theorem Js:∀(l:List fV)(d:jq l),(rZ l d).length=l.length
 |[],_=>rfl
 |_::r,d=>by simp[rZ,Js r d.2]
theorem Out.al7(rs:List (Bool×List fG))(k:Nat):((⟨rs,none⟩:Out).take k).2=(iy k rs).2:=by
 unfold Out.take;dsimp only;split
 .next h=>rw[h]
 .next h=>rw[h]
theorem Out.al8(rs:List (Bool×List fG))(k:Nat):((⟨rs,none⟩:Out).take k).1=(match (iy k rs).1 with|[v]=>AV.sv v|vs=>.lV vs):=by
 unfold Out.take;dsimp only;split
 .next h=>rw[h]
 .next vs δ hne h=>
  rw[h];dsimp only;rcases vs with _|⟨v,_|⟨v2,r⟩⟩
  .rfl
  .exact(hne v rfl).elim
  .rfl
theorem apE{args:List Arg}{S:Nat->Prop}{sh:List fV}{cO:List pW}{x:jq sh}(hx:iF sh args=some x){d:lT cO}{b:kY sh}{k:Nat}{vs:List SV}{us:List Value}
 (hR:Rel w (uI (dw args) γ) (Vq args γ S) γ' st a w') (hrs:dU (aj w (Vq args γ S) γ' st w') vs us) (hnd:yJ (AZ cO vs)=true) (hrd:Cc st cO vs=some d) (hbk:Ja st 0 sh=some b)
 (hap:∀o x,look ((⟨iE cO d,none⟩:Out).take k).2 o=some x->kK (iG sh b) o=none):
 ∃γ2,aZ ⟨w',w.heap.size,oV S args (iG sh b) γ,γ2,look ((⟨iE cO d,none⟩:Out).take k).2⟩ ((⟨iE cO d,none⟩:Out).take k).1 (if h:us.toArray.size=1 then us.toArray[0]else .tuple us.toArray)/\
  (∀o x,look ((⟨iE cO d,none⟩:Out).take k).2 o=some x->bK ⟨w',w.heap.size,oV S args (iG sh b) γ,γ2,look ((⟨iE cO d,none⟩:Out).take k).2⟩ o x/\
    ∀b',blk (γ2 o)=some b'->b'<w'.heap.size/\(w.heap.size<=b'\/uI (dw args) γ b')/\∀q y,kK (iG sh b) q=some y->blk (γ q)≠some b')/\
  (∀o x q y b',look ((⟨iE cO d,none⟩:Out).take k).2 o=some x->look ((⟨iE cO d,none⟩:Out).take k).2 q=some y->o≠q->blk (γ2 o)=some b'->blk (γ2 q)≠some b')/\
  (∀o x,kK (iG sh b) o=some x->γ2 o=γ o/\bK ⟨w',w.heap.size,oV S args (iG sh b) γ,γ2,look ((⟨iE cO d,none⟩:Out).take k).2⟩ o x):=by
 rw[Out.al7]at hap ⊢;rw[Out.al8]
 skip
 let Y:V:=aj w (Vq args γ S) γ' st w'
 let fv:List Value:=us.flatMap λv=>v.cells.toList
 let aK:=iG sh b
 let γ2:Nat->Value:=λp=>match kK aK p with|some _=>γ p|none=>fv.getD (p-k) undef
 let Z:V:=⟨w',w.heap.size,oV S args aK γ,γ2,look (iy k (iE cO d)).2⟩
 have hpos:∀o e r l g,st.ah o=some (.arr e r l g)->0<r.len:=λo e r l g ho=>by obtain⟨_,_,h,_⟩:=hR.ah o _ ho;exact h
 have hF:Eh Y (J8 (iE cO d)) fv (AZ cO vs):=abj (st:=st) rfl hpos cO vs d us hrd hrs;have hbq:∀q y,kK aK q=some y->γ' q=γ q/\∃cs cs0,y=.var cs/\st.ah q=some (.var cs0)/\cs0.flatMap Cell.refs=[]/\cs.flatMap Cell.refs=[]/\∀(X:V) vs,ai X cs0 vs->ai X cs vs:=by
  intro q y hq;obtain⟨hm,l,cs,cs0,h1,h2,h3,h4,h5,h6⟩:=ak5 hbk hq;refine⟨?_,cs,cs0,h2,h3,h4,h5,h6⟩;obtain⟨ci,hci⟩:=abk hx _ l h1;have ho:dw args q=some (.var ci):=by unfold dw;rw[hci];dsimp only;rw[hm]
  have hN:(Vq args γ S).N q=some (γ q):=by show adG args γ q=_;unfold adG;rw[ho]
  exact hR.pin q _ _ hN h3
 have hG:∀p X,look (iy k (iE cO d)).2 p=some X->∃i e r l fr,p=k+i/\(J8 (iE cO d))[i]? =some (.own e r l fr)/\X=.arr e r l fr/\0<r.len/\
  ((∃o g,(AZ cO vs)[i]? =some (some o)/\st.ah o=some (.arr e r l g)/\LC fr g=true/\γ2 p=γ' o/\(γ2 p).oneCell'=true)\/(l=[]/\γ2 p=.slice none 0 0)):=by
  intro p X hp;obtain⟨i,e,r,l,fr,h1,h2,h3⟩:=(Ap _ k p X).1 hp;obtain⟨v,n,g1,g2,hr,hv⟩:=Eh.get _ _ _ i _ hF h2;have hγ:γ2 p=v:=by show(match kK aK p with|some _=>γ p|none=>fv.getD (p-k) undef)=v;rw[hap p X hp];dsimp only;rw[h1,show k+i-k=i by omega,arp,g1];rfl
  refine⟨i,e,r,l,fr,h1,h2,h3,hr,?_⟩;rcases hv with⟨o,g,hn,ho,hb,hv,h1c⟩|⟨hl,hv⟩
  .exact .inl ⟨o,g,by rw[g2,hn],ho,hb,hγ.trans hv,by rw[hγ];exact h1c⟩
  .exact .inr ⟨hl,hγ.trans hv⟩
 have Gf:∀b',Y.foot b'->Z.foot b':=by
  intro b' hb';refine⟨hb'.1,λhlt=>⟨hb'.2.1 hlt,λq y hq=>?_⟩,λp X hp=>?_⟩
  .obtain⟨hγ,cs,cs0,_,h3,_⟩:=hbq q y hq;rw[← hγ];exact hb'.2.2 q _ h3
  .obtain⟨i,e,r,l,fr,_,_,_,_,hc⟩:=hG p X hp;show blk (γ2 p)≠some b';rcases hc with⟨o,g,_,ho,_,hγ,_⟩|⟨_,hγ⟩
   .rw[hγ];exact hb'.2.2 o _ ho
   .rw[hγ];intro h;cases h
 have ak6:∀fr b',Y.bZ fr b'->Z.bZ fr b':=λfr b' h=>⟨Gf b' h.1,h.2⟩;have hgo:Hq Z k (J8 (iE cO d)) fv:=by
  refine Hq.of _ _ _ (Eh.length _ _ _ hF) λi c v hc hv=>?_;obtain⟨v',n,g1,g2,g3⟩:=Eh.get _ _ _ i c hF hc;rw[hv]at g1;cases g1;cases c with
  |plain x=>
   exact(ET (Y:=Y) (Z:=Z) rfl ak6 [x] [v] (by simpa using g3.2) ⟨g3.1,trivial⟩).1
  |own e r l fr=>
   have hp:look (iy k (iE cO d)).2 (k+i)=some (.arr e r l fr):=(Ap _ k _ _).2 ⟨i,e,r,l,fr,rfl,hc,rfl⟩;have hγ:γ2 (k+i)=v:=by show(match kK aK (k+i)with|some _=>γ (k+i)|none=>fv.getD (k+i-k) undef)=v;rw[hap _ _ hp];dsimp only;rw[show k+i-k=i by omega,arp,hv];rfl
   refine⟨⟨e,r,l,fr,hp⟩,hγ.symm,?_⟩;rcases g3.2 with⟨_,_,_,_,_,_,h⟩|⟨_,h⟩
   .exact h
   .rw[h];rfl
 have hsv:dU Z (iy k (iE cO d)).1 us:=afd (st:=st) (Y:=Y) rfl hpos cO vs d us k hrd hrs hgo;refine⟨γ2,?_,λp X hp=>?_,λp X q X' b' hp hq hne hb1 hb2=>?_,λq y hq=>?_⟩
 .have hl:=dU.length _ _ hsv
  match hm:(iy k (iE cO d)).1,us,hsv,hl with
  |[v],[u],hk,_=>exact hk.1
  |[],[],hk,_=>exact⟨_,by simp,hk⟩
  |v::v2::r,u::u2::us,hk,hl=>exact⟨_,by simp,hk⟩
  |[],_::_,hk,h4|_::_,[],hk,h4|[_],_::_::_,hk,h4|_::_::_,[_],hk,h4=>simp at h4
 .obtain⟨i,e,r,l,fr,_,_,rfl,hr,hc⟩:=hG p X hp;rcases hc with⟨o,g,_,ho,hb,hγ,_⟩|⟨rfl,hγ⟩
  .have hO:bK Y o (.arr e r l g):=hR.ah o _ ho;have hold:∀b',blk (γ' o)=some b'->fr=true->w.heap.size<=b':=by intro b' hb' hfr;subst hfr;have hg:g=true:=hb;subst hg;obtain⟨_,_,_,hn,_⟩:=hO;exact hn b' hb' rfl
   refine⟨bK.Xy (Y:=Y) (Z:=Z) hO hγ rfl (λb' hb'=>⟨Gf b' hb'.1,λhfr=>hb'.2 ?_⟩) hold,λb' hb'=>?_⟩
   .subst hfr;exact hb
   .rw[hγ]at hb';obtain⟨h1,h2⟩:=hR.lt o _ b' ho hb';refine⟨h1,h2,λq y hq=>?_⟩;obtain⟨hγq,cs,cs0,_,h3,_⟩:=hbq q y hq;rw[← hγq];refine hR.sep o _ q _ b' ho h3 ?_ hb';intro e;subst e;rw[ho]at h3;cases h3
  .refine⟨⟨[],⟨by simp,.inl ⟨hγ,rfl⟩⟩,hr,(λb' hb'=>by have h0:blk (γ2 p)=some b':=hb';rw[hγ]at h0;cases h0),λi x hi=>by simp at hi⟩,λb' hb'=>by rw[hγ]at hb';cases hb'⟩
 .obtain⟨i,e,r,l,fr,hi,_,_,_,hc⟩:=hG p X hp;obtain⟨j,e',r',l',fr',hj,_,_,_,hc'⟩:=hG q X' hq;rcases hc with⟨o,g,hn,ho,_,hγ,_⟩|⟨_,hγ⟩
  .rcases hc' with⟨o',g',hn',ho',_,Po,_⟩|⟨_,Po⟩
   .rw[hγ]at hb1;rw[Po]at hb2;have:o≠o':=by intro e;subst e;have:=Oy hnd _ _ _ hn hn';omega
    exact hR.sep o _ o' _ b' ho ho' this hb1 hb2
   .rw[Po]at hb2;cases hb2
  .rw[hγ]at hb1;cases hb1
 .obtain⟨hγ,cs,cs0,rfl,h3,h4,h5,h6⟩:=hbq q y hq;have lY:γ2 q=γ q:=by show(match kK aK q with|some _=>γ q|none=>fv.getD (q-k) undef)=γ q;rw[hq]
  refine⟨lY,?_⟩;obtain⟨b',arr,t,k1,k2,k3⟩:=hR.ah q _ h3;refine⟨b',arr,t,?_,k2,ET (Y:=Y) (Z:=Z) rfl ak6 _ _ h5 (h6 _ _ k3)⟩;show γ2 q=_;rw[lY,← hγ];exact k1
theorem aiY{G:jF}(hE:EnvB P G Θ Γ)(hm:P.follows .mixedOrders=true){f:FuncId}{fn:Func}{c:Code}(hf:P.funcs[f]? =some fn)(hb:fn.body=some c)(H:Hints)
 {sh:List fV} {cO:List pW} {F:jq sh->Prop×(lT cO×kY sh->Prop)} (hn:Nat.ble sh.length fn.ntmps=true) (hne:∀x,(F x).1->∃t,(F x).2 t)
 (hwalk:∀x,Ko sh x->(F x).1->Gi Θ Γ H c (agl Θ fn.results.toList sh cO (F x).2) (Eg fn.ntmps (rZ sh x))):jy P G f (pK sh cO F):=by
 intro args p ρ hcon hp;unfold pK at hcon;split at hcon
 case h_2=>cases hcon
 next x hx=>
 cases hcon;refine⟨hne x hp,λk S γ vs w hG hrep mV hsep hap=>?_⟩;have hlen:=(J7 hx).1;rw[Js]at hlen;have hn':args.length<=fn.ntmps:=by rw[← hlen];simpa[atI]using hn
 have hin:Ko sh x:=Vr (λo X ho=>(mV o X ho).1) sh args x vs.toList 0 (λj a h=>by rwa [arQ]) hx hrep;have hR0:=abg (S:=S) fn.ntmps hn' hrep (λo X ho=>⟨(mV o X ho).1,λb hb=>((mV o X ho).2 b hb).1⟩) hsep;have hR1:=hR0.covers (Tz hx fn.ntmps);refine calls_of_wp hf hb (Vo ⟨hE,hG,λb hb=>?_⟩ hm H c _ _ _ _ _ _ hR1 (hwalk x hin hp) ?_)
 .obtain⟨o,X,ho,hb⟩:=hb;exact((mV o X ho).2 b hb).2
 intro e s γ' a' w' he hR;have hret:∃(us:List Value)(t:lT cO×kY sh),(fn.results.mapM (I8 a'.tmps)).run P w'=.ok us.toArray w'/\(F x).2 t/\∃γ2,
  aZ ⟨w',w.heap.size,oV S args (iG sh t.2) γ,γ2,look ((⟨iE cO t.1,none⟩:Out).take k).2⟩ ((⟨iE cO t.1,none⟩:Out).take k).1 (if h:us.toArray.size=1 then us.toArray[0]else .tuple us.toArray)/\
  (∀o x',look ((⟨iE cO t.1,none⟩:Out).take k).2 o=some x'->bK ⟨w',w.heap.size,oV S args (iG sh t.2) γ,γ2,look ((⟨iE cO t.1,none⟩:Out).take k).2⟩ o x'/\
    ∀b,blk (γ2 o)=some b->b<w'.heap.size/\(w.heap.size<=b\/uI (dw args) γ b)/\∀q y,kK (iG sh t.2) q=some y->blk (γ q)≠some b)/\
  (∀o x' q y b,look ((⟨iE cO t.1,none⟩:Out).take k).2 o=some x'->look ((⟨iE cO t.1,none⟩:Out).take k).2 q=some y->o≠q->blk (γ2 o)=some b->blk (γ2 q)≠some b)/\
  (∀o x',kK (iG sh t.2) o=some x'->γ2 o=γ o/\bK ⟨w',w.heap.size,oV S args (iG sh t.2) γ,γ2,look ((⟨iE cO t.1,none⟩:Out).take k).2⟩ o x'):=by
  have he':(e=.normal\/e=.ret)/\agl Θ fn.results.toList sh cO (F x).2 .ret s:=by
   cases e with
   |normal=>exact⟨.inl rfl,he⟩
   |ret=>exact⟨.inr rfl,he⟩
   |_=>exact he.elim
  have he2:=he'.2;simp only[agl]at he2;split at he2
  .next svs aq2=>
   split at he2
   .next vs' hvs'=>
    split at he2
    .next d b hnd hd hb'=>have hRf:=hR.freeze (abf s (AZ cO svs));obtain⟨us,hus,hrs⟩:=LG hE.types hRf _ _ hvs';refine⟨us,(d,b),?_,he2,apE hx hRf hrs hnd hd hb' (hap (d,b) he2)⟩;rw[atX,Sem.run_map,hus];rfl
    .exact he2.elim
   .exact he2.elim
  .exact he2.elim
 obtain⟨us,t,hus,ht,γ2,h1,h2,h3,h4⟩:=hret;have hfin:bodyPost P fn (λe w'=>∃t,(F x).2 t/\Nz S args γ w k ⟨iE cO t.1,none⟩ (iG sh t.2) e w') .ret a' w':=by refine⟨hR.defers,if h:us.toArray.size=1 then us.toArray[0]else .tuple us.toArray,?_,t,ht,_,γ2,rfl,hR.os,hR.tape,hR.output,hR.grow,hR.kept,h1,h2,h3,h4⟩;rw[QY,arJ,hus];simp only[asa,asu]
 cases e with
 |normal=>exact hfin
 |ret=>exact hfin
 |_=>exact he.elim
def agm(rv:List ResultVar)(l:List gI)(K:lg l->Prop)(e:Exit)(st:St):Prop:=
 match e with
 |.normal|.ret=>match rv with
  |[.tmp t]=>match st.tmps t with
   |.bG o off=>match Nat.beq off 0,(st.freeze (NJ st)).ah o with
    |true,some (.var cs)=>match cs.flatMap Cell.refs,jJ l cs with
     |[],some d=>K d
     |_,_=>False
    |_,_=>False
   |_=>False
  |_=>False
 |_=>False
def loses(sh:List fV):List Eff:=sh.map λ_=>.lose
def al9(sh:List fV)(l:List gI)(F:jq sh->Prop×(lg l->Prop)):FT:=λargs=>
 match iF sh args with
 |some x=>some ((F x).1,⟨lg l,(F x).2,λt=>⟨[],some (gY l t)⟩,λ_=>loses sh⟩)
 |none=>none
theorem QZ(sh:List fV)(q:Nat):kK (loses sh) q=none:=by unfold kK loses;rw[asA];cases sh[q / 64]? <;>rfl
theorem PG:∀(l:List gI)(cs:List Cell)(d:lg l),jJ l cs=some d->cs.flatMap Cell.refs=[]->(gY l d).flatMap Cell.refs=[]
 |[],[],_,_,_=>rfl
 |c::l,x::xs,d,h,hn=>by
  rw[jJ]at h;rw[asw,asf]at hn;split at h
  .next p q hp hq=>
   cases h;show((c.cell p)::gY l q).flatMap Cell.refs=[];rw[asw,asf];refine⟨?_,PG l xs q hq hn.2⟩;cases c with
   |ref o=>
    cases x<;>simp[gI.read,Cell.refs]at hp hn
   |_=>rfl
  .cases h
 |[],_::_,_,h,_=>by simp[jJ]at h
 |_::_,[],_,h,_=>by simp[jJ]at h
theorem anp{G:jF}(hE:EnvB P G Θ Γ)(hm:P.follows .mixedOrders=true){f:FuncId}{fn:Func}{c:Code}(hf:P.funcs[f]? =some fn)(hb:fn.body=some c)(H:Hints)
 {sh:List fV} {l:List gI} {F:jq sh->Prop×(lg l->Prop)} (hn:Nat.ble sh.length fn.ntmps=true) (hne:∀x,(F x).1->∃t,(F x).2 t)
 (hwalk:∀x,Ko sh x->(F x).1->Gi Θ Γ H c (agm fn.results.toList l (F x).2) (Eg fn.ntmps (rZ sh x))):jy P G f (al9 sh l F):=by
 intro args p ρ hcon hp;unfold al9 at hcon;split at hcon
 case h_2=>cases hcon
 next x hx=>
 cases hcon;refine⟨hne x hp,λk S γ vs w hG hrep mV hsep hap=>?_⟩;have hlen:=(J7 hx).1;rw[Js]at hlen;have hn':args.length<=fn.ntmps:=by rw[← hlen];simpa[atI]using hn
 have hin:Ko sh x:=Vr (λo X ho=>(mV o X ho).1) sh args x vs.toList 0 (λj a h=>by rwa [arQ]) hx hrep;have hR0:=abg (S:=S) fn.ntmps hn' hrep (λo X ho=>⟨(mV o X ho).1,λb hb=>((mV o X ho).2 b hb).1⟩) hsep;have hR1:=hR0.covers (Tz hx fn.ntmps);refine calls_of_wp hf hb (Vo ⟨hE,hG,λb hb=>?_⟩ hm H c _ _ _ _ _ _ hR1 (hwalk x hin hp) ?_)
 .obtain⟨o,X,ho,hb⟩:=hb;exact((mV o X ho).2 b hb).2
 intro e s γ' a' w' he hR;have he':agm fn.results.toList l (F x).2 .ret s:=by
  cases e with
  |normal=>exact he
  |ret=>exact he
  |_=>exact he.elim
 have hfin:bodyPost P fn (λe w'=>∃t,(F x).2 t/\Nz S args γ w k ⟨[],some (gY l t)⟩ (loses sh) e w') .ret a' w':=by
  simp only[agm]at he';split at he'
  case h_2=>exact he'.elim
  next t hrv=>
  split at he'
  case h_2=>exact he'.elim
  next o off Vj=>
  split at he'
  case h_2=>exact he'.elim
  next cs hoff hcs=>
  split at he'
  case h_2=>exact he'.elim
  next d hnr hd=>
  have hoff:=arl hoff;subst hoff;have hRf:=hR.freeze (NJ s);have hv:=hR.tmps t;rw[Vj]at hv;obtain⟨b,cs0,_,hγ,hval⟩:=hv;obtain⟨b',arr,ty,g1,g2,g3⟩:=hRf.ah o _ hcs;have g1:γ' o=.pointer (some ⟨b',0,none⟩):=g1;have hγ:γ' o=.pointer (some ⟨b,0,none⟩):=hγ;rw[hγ]at g1;cases g1;have hblk:blk (γ' o)=some b:=by rw[hγ];rfl
  have hlt:=hRf.lt o _ b hcs hblk
  let γ2:Nat->Value:=λ_=>γ' o
  let Z:V:=⟨w',w.heap.size,oV S args (loses sh) γ,γ2,look (Out.take k ⟨[],some (gY l d)⟩).2⟩
  have hlook:∀q y,look (Out.take k ⟨[],some (gY l d)⟩).2 q=some y->q=k-1/\y=.var (gY l d):=by
   intro q y hq;have hmem:=uH _ q y hq;have:(q,y)=(k-1,.var (gY l d)):=by simpa[Out.take]using hmem
   exact⟨congrArg Prod.fst this,congrArg Prod.snd this⟩
  have Gf:∀fr b',(aj w (Vq args γ S) γ' (s.freeze (NJ s)) w').bZ fr b'->Z.bZ fr b':=by intro fr b' hb';refine⟨⟨hb'.1.1,λhlt'=>⟨hb'.1.2.1 hlt',λq y hq=>by rw[QZ]at hq;cases hq⟩,λq y hq=>?_⟩,hb'.2⟩;exact hb'.1.2.2 o _ hcs
  have hcells:ai Z (gY l d) arr.toList:=
   ET (Y:=aj w (Vq args γ S) γ' (s.freeze (NJ s)) w') (Z:=Z) rfl Gf _ _ (PG l cs d hd hnr) (Ee l cs d _ hd g3)
  have hself:look (Out.take k ⟨[],some (gY l d)⟩).2 (k-1)=some (.var (gY l d)):=by simp[Out.take,look]
  refine⟨hR.defers,a'.tmps.getD t undef,?_,d,he',_,γ2,rfl,hR.os,hR.tape,hR.output,hR.grow,hR.kept,?_,λq y hq=>?_,λq y q' y' b' hq hq' hne'=>?_,λq y hq=>by rw[QZ]at hq;cases hq⟩
  .have:fn.results=#[.tmp t]:=by apply asZ;simpa using hrv
   have hmap:(Array.mapM (I8 a'.tmps) #[ResultVar.tmp t]).run P w'=.ok #[a'.tmps.getD t undef] w':=by rw[atX,Sem.run_map];simp only[au1,List.mapM_nil,I8];rfl
   rw[QY,this,arJ,hmap];rfl
  .exact⟨b,gY l d,hself,hγ,hval⟩
  .obtain⟨rfl,rfl⟩:=hlook q y hq;refine⟨⟨b,arr,ty,hγ,g2,hcells⟩,λb' hb'=>?_⟩;have hb':blk (γ' o)=some b':=hb';rw[hblk]at hb';cases hb';exact⟨hlt.1,hlt.2,λq y hq=>by rw[QZ]at hq;cases hq⟩
  .obtain⟨rfl,_⟩:=hlook q y hq;obtain⟨rfl,_⟩:=hlook q' y' hq';exact(hne' rfl).elim
 cases e with
 |normal=>exact hfin
 |ret=>exact hfin
 |_=>exact he.elim
end Go.Fw
namespace Go.Fw
open Go
def CT.isZero:CT->Value->Bool
 |.int k,.int l n=>decide (k=l)&&decide (n=0)
 |.bool,.bool b=>!b
 |.str,.string s=>s.data.toList.isEmpty
 |.sl _ _,.slice none 0 0=>true
 |_,_=>false
def aB.PI:aB->List Value->Bool
 |.nil,[]=>true
 |.cons c r,v::vs=>c.isZero v&&r.PI vs
 |_,_=>false
theorem CT.ak7:∀(c:CT)(v:Value),c.isZero v=true->v=c.adx:=by
 intro c v h;unfold CT.isZero at h;split at h
 .simp at h;rw[h.1,h.2];rfl
 .simp at h;subst h;rfl
 .next s=>obtain⟨⟨l⟩⟩:=s;simp at h;subst h;rfl
 .rfl
 .cases h
theorem aB.abl:∀(r:aB)(vs:List Value),r.PI vs=true->vs=r.jT
 |.nil,[],_=>rfl
 |.cons c r,v::vs,h=>by
  rw[PI,ark]at h;rw[aB.jT,CT.ak7 c v h.1,aB.abl r vs h.2]
 |.nil,_::_,h|.cons _ _,[],h=>by simp[PI]at h
def ag5:TypeDesc->TypeDesc->Bool
 |.int k,.int l=>decide (k=l)
 |.bool,.bool=>true
 |.string,.string=>true
 |.slice e,.slice f=>Nat.beq e f
 |_,_=>false
theorem ak8:∀(c d:TypeDesc),ag5 c d=true->c=d:=by
 intro c d h;unfold ag5 at h;split at h
 .rw[asM h]
 .rfl
 .rfl
 .rw[arl h]
 .cases h
def LH(P:Program):List (Nat×TypeId)->List Field->Bool
 |[],[]=>true
 |(o,t)::r,f::fs=>Nat.beq o f.offset&&Nat.beq t f.type&&(P.info? f.type).isSome&&LH P r fs
 |_,_=>false
theorem YJ{P:Program}:∀(l:List (Nat×TypeId))(fs:List Field),LH P l fs=true->l=fs.map (λf=>(f.offset,f.type))/\∀f∈fs,(P.info? f.type).isSome=true
 |[],[],_=>⟨rfl,by simp⟩
 |(o,t)::r,f::fs,h=>by
  rw[LH,ark,ark,ark]at h;obtain⟨⟨⟨h1,h2⟩,h3⟩,h4⟩:=h;obtain⟨e,hall⟩:=YJ r fs h4;refine⟨by rw[arS,← e,arl h1,arl h2],λg hg=>?_⟩;rcases arU.1 hg with rfl|hg
  .exact h3
  .exact hall g hg
 |[],_::_,h|_::_,[],h=>by simp[LH]at h
def ak9(P:Program)(t:TypeId)(ti:TI):Bool:=
 match ti.kind,P.underlying t with
 |.scalar,some d=>match ti.cells.desc with|some c=>ag5 c d|none=>false
 |.str,some .string=>ti.cells.beq (.cons .str .nil)
 |.slice e,some (.slice f)=>Nat.beq e f&&(match ti.cells with|.cons (.sl g _) .nil=>Nat.beq g e|_=>false)
 |.struct fs,some (.struct yK)=>LH P fs yK.toList
 |_,_=>false
def aiZ(ti:TI)(z:Value):Bool:=match ti.kind with
 |.struct _=>true
 |_=>z.oneCell'
def adH(P:Program)(t:TypeId)(ti:TI):Bool:=
 match P.info? t with
 |some i=>match i.zero with
  |some z=>Nat.beq i.size ti.cells.len&&Nat.beq i.bytes ti.bytes&&ti.cells.PI z.cells.toList&&aiZ ti z&&ak9 P t ti&&Nat.ble ti.bytes 4096&&(!ti.cmp||ajB P t ti.cells)
  |none=>false
 |none=>false
theorem kU.ama{P:Program}{t:TypeId}{ti:TI}(h:adH P t ti=true):kU P t ti:=by
 unfold adH at h;split at h
 .next i hi=>
  split at h
  .next z hz=>
   simp only[ark]at h;obtain⟨⟨⟨⟨⟨⟨h1,h2⟩,h3⟩,h4⟩,h5⟩,h6⟩,h7⟩:=h;refine⟨⟨i,z,hi,arl h1,arl h2,hz,aB.abl _ _ h3,λhagg=>?_⟩,?_,by simpa[atI]using h6,λe w s u X xs ys vs us b hf hx hy he=>anj (by rw[e]at h7;simpa using h7) w s u X xs ys vs us b hf hx hy he⟩
   .unfold aiZ at h4;unfold TI.agg at hagg;split at h4
    .next hk=>rw[hk]at hagg;cases hagg
    .exact FZ z h4
   .unfold ak9 at h5;split at h5
    .next d hk hu=>
     rw[hk];split at h5
     .next c hc=>exact⟨d,by rw[hc,ak8 c d h5],hu⟩
     .cases h5
    .next hk hu=>rw[hk];exact⟨hu,aB.eq_of_beq _ _ h5⟩
    .next e f hk hu=>
     rw[hk];rw[ark]at h5;have hef:=arl h5.1;subst hef;refine⟨hu,?_⟩;have h52:=h5.2;split at h52
     .next g r hg=>exact⟨r,by rw[hg,arl h52]⟩
     .cases h52
    .next fs yK hk hu=>rw[hk];obtain⟨e,hall⟩:=YJ _ _ h5;exact⟨yK,hu,e,hall⟩
    .cases h5
  .cases h
 .cases h
def PK(P:Program):List (Nat×TI)->Bool
 |[]=>true
 |(t,ti)::r=>adH P t ti&&PK P r
theorem ag6{P:Program}:∀{l:List (Nat×TI)},PK P l=true->∀t ti,abb l t=some ti->kU P t ti
 |[],_,t,ti,h=>by cases h
 |(i,x)::r,hc,t,ti,h=>by
  rw[PK,ark]at hc;rw[abb]at h;cases hb:Nat.beq t i with
  |true=>rw[hb]at h;cases h;rw[arl hb];exact .ama hc.1
  |false=>rw[hb]at h;exact ag6 hc.2 t ti h
def XF(fn:Func):Bool:=fn.body.isSome&&!(fn.name== "runtime.NumGoroutine")
theorem kS{P:Program}{f:FuncId}{fn:Func}(hf:P.funcs[f]? =some fn)(hc:XF fn=true):jU P f:=by
 intro args w;unfold XF at hc;rw[ark]at hc;have h1:(fn.name== "runtime.NumGoroutine")=false:=by simpa using hc.2
 have h2:fn.body.isNone=false:=by cases hb:fn.body with|none=>rw[hb]at hc;simp at hc|some _=>rfl
 unfold callFunc;simp only[arJ,run_program,asa,hf,h1,h2,asU,atH,asu]
def ala(P:Program)(G:jF)(f:FuncId):Jq->Prop
 |.pure c=>nG P G f c/\jU P f
 |.eff _ c=>jy P G f c/\jU P f
theorem alb{P:Program}{G:jF}{Θ:jk}(hT:∀t ti,Θ t=some ti->kU P t ti):∀{l:List (Nat×Jq)},(∀x∈l,ala P G x.1 x.2)->EnvB P G Θ (JW l)
 |[],_=>⟨hT,(λf con h=>by cases h),(λf ms con h=>by cases h)⟩
 |(i,c)::r,h=>by
  have ih:=alb (G:=G) hT λx hx=>h x (arE _ hx);refine⟨hT,λf con hf=>?_,λf ms con hf=>?_⟩
  .rw[JW]at hf;cases hb:Nat.beq f i with
   |true=>rw[hb]at hf;cases hf;rw[arl hb];exact h (i,.pure con) arC
   |false=>rw[hb]at hf;exact ih.cons f con hf
  .rw[JW]at hf;cases hb:Nat.beq f i with
   |true=>rw[hb]at hf;cases hf;rw[arl hb];exact h (i,.eff ms con) arC
   |false=>rw[hb]at hf;exact ih.agj f ms con hf
end Go.Fw
namespace Go.Fw
open Go
structure PA where
 n:Nat
 sh:List iq
 cO:List pF
 F:jZ sh->Prop×qB cO
structure XA where
 n:Nat
 sh:List fV
 cO:List pW
 F:jq sh->Prop×(lT cO×kY sh->Prop)
structure QA where
 n:Nat
 sh:List fV
 cO:List gI
 F:jq sh->Prop×(lg cO->Prop)
def PA.e(q:PA):Nat×Jq:=(q.n,.pure (vH q.sh q.cO q.F))
def XA.e(q:XA):Nat×Jq:=(q.n,.eff (IZ q.sh) (pK q.sh q.cO q.F))
def QA.e(q:QA):Nat×Jq:=(q.n,.eff (IZ q.sh) (al9 q.sh q.cO q.F))
def abm(P:Program)(G:jF)(x:Nat×Jq):Prop:=ala P G x.1 x.2
def ag7(P:Program)(G:jF):List (Nat×Jq)->Prop
 |[]=>True
 |x::l=>abm P G x/\ag7 P G l
theorem amb{P:Program}{G:jF}{l':List (Nat×TI)}(hT:PK P l'=true){l:List (Nat×Jq)}(h:ag7 P G l):EnvB P G (abb l') (JW l):=
 alb (ag6 hT) (by
  induction l with
  |nil=>exactλx hx=>by cases hx
  |cons y l ih=>exact List.forall_mem_cons.2 ⟨h.1,ih h.2⟩)
def adI:(l:List gI)->(lg l->Prop)->Prop
 |[],p=>p ()
 |c::r,p=>∀x:c.den,adI r λy=>p (x,y)
theorem PL:∀{l:List gI}{p:lg l->Prop},adI l p->∀x,p x
 |[],_,h,()=>h
 |_::_,_,h,(x,y)=>PL (h x) y
def ajV:(l:List (List gI))->(AY l->Prop)->Prop
 |[],p=>p ()
 |c::r,p=>adI c λx=>ajV r λy=>p (x,y)
theorem ag8:∀{l:List (List gI)}{p:AY l->Prop},ajV l p->∀x,p x
 |[],_,h,()=>h
 |_::_,_,h,(x,y)=>ag8 (PL h x) y
def amc:(s:iq)->(s.den->Prop)->Prop
 |.v (.one c),p=>∀x:c.den,p x
 |.v (.agg l),p=>adI l p
 |.kp l,p=>adI l p
 |.fn _ l,p=>ajV l p
theorem ai0:∀{s:iq}{p:s.den->Prop},amc s p->∀x,p x
 |.v (.one _),_,h,x=>h x
 |.v (.agg _),_,h,x=>PL h x
 |.kp _,_,h,x=>PL h x
 |.fn _ _,_,h,x=>ag8 h x
def ajW:(l:List iq)->(jZ l->Prop)->Prop
 |[],p=>p ()
 |s::r,p=>amc s λx=>ajW r λy=>p (x,y)
theorem ag9:∀{l:List iq}{p:jZ l->Prop},ajW l p->∀x,p x
 |[],_,h,()=>h
 |_::_,_,h,(x,y)=>ag9 (ai0 h x) y
def anX:(s:fV)->(s.den->Prop)->Prop
 |.p s,p=>amc s p
 |.own _ r,p=>∀x:List r.den,p x
 |.ptr l,p=>adI l p
theorem anq:∀{s:fV}{p:s.den->Prop},anX s p->∀x,p x
 |.p _,_,h,x=>ai0 h x
 |.own _ _,_,h,x=>h x
 |.ptr _,_,h,x=>PL h x
def agn:(l:List fV)->(jq l->Prop)->Prop
 |[],p=>p ()
 |s::r,p=>anX s λx=>agn r λy=>p (x,y)
theorem Zr:∀{l:List fV}{p:jq l->Prop},agn l p->∀x,p x
 |[],_,h,()=>h
 |_::_,_,h,(x,y)=>Zr (anq h x) y
abbrev LP{α:Type}(x:α)(f:(α->Prop)->(α->Nat)->α->Prop):Prop:=∃(I:α->Prop),∃(μ:α->Nat),I x/\∀(y:α),I y->f I μ y
abbrev NX{σ α:Type}(s:σ)(I:α->Prop)(μ:α->Nat)(x y:α):Prop:=s=s/\I x/\μ x<μ y
def H0:Hints:=hints [] [] [] [] []
def Bf(P:Program)(n:Nat):Func:=match P.funcs[n]? with|some f=>f|none=>default
def Jb(P:Program)(n k:Nat):Bool:=P.funcs[n]?.isSome&&XF (Bf P n)&&Nat.ble k (Bf P n).ntmps
theorem Vs{P:Program}{n k:Nat}(h:Jb P n k=true):P.funcs[n]? =some (Bf P n)/\(Bf P n).body=some (codeOf (Bf P n))/\jU P n/\Nat.ble k (Bf P n).ntmps=true:=by
 simp only[Jb,ark]at h;obtain⟨⟨h1,h2⟩,h3⟩:=h;have e:P.funcs[n]? =some (Bf P n):=by
  unfold Bf;cases hf:P.funcs[n]? with
  |some f=>rfl
  |none=>rw[hf]at h1;cases h1
 refine⟨e,?_,kS e h2,h3⟩;have h4:=h2;unfold XF at h4;rw[ark]at h4;unfold codeOf;cases hb:(Bf P n).body with
 |some c=>rfl
 |none=>rw[hb]at h4;cases h4.1
def PA.goal(q:PA)(g:(qB q.cO->Prop)->Prop)(x:jZ q.sh):Prop:=J6 q.sh x->(q.F x).1->g λr=>r=(q.F x).2
def XA.goal(q:XA)(g:(lT q.cO×kY q.sh->Prop)->Prop)(x:jq q.sh):Prop:=Ko q.sh x->(q.F x).1->g (q.F x).2
def QA.goal(q:QA)(g:(lg q.cO->Prop)->Prop)(x:jq q.sh):Prop:=Ko q.sh x->(q.F x).1->g (q.F x).2
variable {P:Program} {Θ:jk} {Γ:kz} {G:jF}
theorem PA.ok{q:PA}(hm:P.follows .mixedOrders=true)(hE:EnvB P G Θ Γ)(H:Hints){p:Prop}
 (hp:(bif Jb P q.n q.sh.length then ajW q.sh λx=>q.goal (λK=>Gi Θ Γ H (codeOf (Bf P q.n)) (abd Θ (Bf P q.n).results.toList q.cO K) (entry (Bf P q.n).ntmps (uJ q.sh x))) x else False)=p) (h:p):abm P G q.e:=by
 subst hp;cases hc:Jb P q.n q.sh.length with
 |false=>rw[hc]at h;exact h.elim
 |true=>rw[hc]at h;obtain⟨h1,h2,h3,h4⟩:=Vs hc;exact⟨adD hE hm h1 h2 H h4 λx hi hx=>ag9 h x hi hx,h3⟩
theorem XA.ok{q:XA}(hm:P.follows .mixedOrders=true)(hE:EnvB P G Θ Γ)(H:Hints)(hne:∀x,(q.F x).1->∃t,(q.F x).2 t){p:Prop}
 (hp:(bif Jb P q.n q.sh.length then agn q.sh λx=>q.goal (λK=>Gi Θ Γ H (codeOf (Bf P q.n)) (agl Θ (Bf P q.n).results.toList q.sh q.cO K) (Eg (Bf P q.n).ntmps (rZ q.sh x))) x else False)=p) (h:p):abm P G q.e:=by
 subst hp;cases hc:Jb P q.n q.sh.length with
 |false=>rw[hc]at h;exact h.elim
 |true=>rw[hc]at h;obtain⟨h1,h2,h3,h4⟩:=Vs hc;exact⟨aiY hE hm h1 h2 H h4 hne λx hi hx=>Zr h x hi hx,h3⟩
theorem QA.ok{q:QA}(hm:P.follows .mixedOrders=true)(hE:EnvB P G Θ Γ)(H:Hints)(hne:∀x,(q.F x).1->∃t,(q.F x).2 t){p:Prop}
 (hp:(bif Jb P q.n q.sh.length then agn q.sh λx=>q.goal (λK=>Gi Θ Γ H (codeOf (Bf P q.n)) (agm (Bf P q.n).results.toList q.cO K) (Eg (Bf P q.n).ntmps (rZ q.sh x))) x else False)=p) (h:p):abm P G q.e:=by
 subst hp;cases hc:Jb P q.n q.sh.length with
 |false=>rw[hc]at h;exact h.elim
 |true=>rw[hc]at h;obtain⟨h1,h2,h3,h4⟩:=Vs hc;exact⟨anp hE hm h1 h2 H h4 hne λx hi hx=>Zr h x hi hx,h3⟩
end Go.Fw
namespace Go.Fw
open Go
variable {P:Program} {G:jF} {f:FuncId}
abbrev gB:List UInt8:=[]
abbrev yN:List (Int×Unit):=[]
theorem nG.weaken{con Vt:KZ}(h:nG P G f con)(hc:∀args p out,Vt args=some (p,out)->p->∃q,con args=some (q,out)/\q):nG P G f Vt:=by intro args p out k S vs w hcon hp hG hrep;obtain⟨q,h1,h2⟩:=hc args p out hcon hp;exact h args q out k S vs w h1 h2 hG hrep
theorem jy.weaken{con Vt:FT}(h:jy P G f con)(hc:∀args p ρ,Vt args=some (p,ρ)->p->∃q,con args=some (q,ρ)/\q):jy P G f Vt:=by intro args p ρ hcon hp;obtain⟨q,h1,h2⟩:=hc args p ρ hcon hp;exact h args q ρ h1 h2
theorem alc{sh:List iq}{cO:List pF}{F:jZ sh->Prop×qB cO}(Fr Fs:Nat->jZ sh->Prop×qB cO)(h0:∀x,¬(Fr 0 x).1)(hs:∀n x,Fr (n+1) x=Fs n x)
 (hf:∀x,(F x).1->∃n,(Fr n x).1) (he:∀n x,(Fr n x).2=(F x).2) (step:∀n,nG P G f (vH sh cO (Fr n))->nG P G f (vH sh cO (Fs n))):nG P G f (vH sh cO F):=by
 have all:∀n,nG P G f (vH sh cO (Fr n)):=by
  intro n
  induction n with
  |zero=>
   intro args p out k S vs w hcon hp;unfold vH EK at hcon;split at hcon
   .next x _=>have e:(Fr 0 x).1=p:=congrArg Prod.fst (Option.some.inj hcon);exact absurd (e.symm▸hp) (h0 x)
   .cases hcon
  |succ n ih=>have:=step n ih;have e:Fr (n+1)=Fs n:=funext (hs n);rw[e];exact this
 intro args p out k S vs w hcon hp hG hrep;have Kq:=hcon;unfold vH EK at Kq;split at Kq
 .next x hx=>have e:=Option.some.inj Kq;have e1:(F x).1=p:=congrArg Prod.fst e;obtain⟨n,hn⟩:=hf x (e1.symm▸hp);refine all n args (Fr n x).1 out k S vs w ?_ hn hG hrep;unfold vH EK;rw[hx];show some ((Fr n x).1,_)=_;rw[he n x];exact congrArg (λz=>some ((Fr n x).1,z)) (congrArg Prod.snd e)
 .cases Kq
theorem anr{sh:List fV}{cO:List pW}{F:jq sh->Prop×(lT cO×kY sh->Prop)}(Fr Fs:Nat->jq sh->Prop×(lT cO×kY sh->Prop))(h0:∀x,¬(Fr 0 x).1)(hs:∀n x,Fr (n+1) x=Fs n x)
 (hf:∀x,(F x).1->∃n,(Fr n x).1) (he:∀n x,(Fr n x).2=(F x).2) (step:∀n,jy P G f (pK sh cO (Fr n))->jy P G f (pK sh cO (Fs n))):jy P G f (pK sh cO F):=by
 have all:∀n,jy P G f (pK sh cO (Fr n)):=by
  intro n
  induction n with
  |zero=>
   intro args p ρ hcon hp;unfold pK at hcon;split at hcon
   .next x _=>have e:(Fr 0 x).1=p:=congrArg Prod.fst (Option.some.inj hcon);exact absurd (e.symm▸hp) (h0 x)
   .cases hcon
  |succ n ih=>have:=step n ih;have e:Fr (n+1)=Fs n:=funext (hs n);rw[e];exact this
 intro args p ρ hcon hp;have Kq:=hcon;unfold pK at Kq;split at Kq
 .next x hx=>have e:=Option.some.inj Kq;have e1:(F x).1=p:=congrArg Prod.fst e;obtain⟨n,hn⟩:=hf x (e1.symm▸hp);refine all n args (Fr n x).1 ρ ?_ hn;unfold pK;rw[hx];show some ((Fr n x).1,_)=_;rw[he n x];exact congrArg (λz=>some ((Fr n x).1,z)) (congrArg Prod.snd e)
 .cases Kq
end Go.Fw
namespace Go.Fw
open Go
variable {P:Program} {H:Type} {enc:TypeId×Value->H} {w:World}
def aB.app:aB->aB->aB
 |.nil,s=>s
 |.cons c r,s=>.cons c (r.app s)
def agp:(r s:aB)->r.den->s.den->(r.app s).den
 |.nil,_,_,y=>y
 |.cons _ r,s,x,y=>(x.1,agp r s x.2 y)
theorem bn.app{h:Array Obj}{S:Nat->Prop}:∀(r s:aB)(x:r.den)(y:s.den)(vs us:List Value),bn h S r vs x->bn h S s us y->bn h S (r.app s) (vs++us) (agp r s x y)
 |.nil,s,x,y,vs,us,h1,h2=>by rw[bn]at h1;subst h1;exact h2
 |.cons c r,s,(x,x'),y,vs,us,h1,h2=>by rw[bn]at h1;obtain⟨v,vs',rfl,g1,g2⟩:=h1;show bn h S (.cons c (r.app s)) (v::(vs'++us)) (x,agp r s x' y);rw[bn];exact⟨v,vs'++us,rfl,g1,bn.app r s x' y vs' us g2 h2⟩
theorem add_add(a:Addr)(h:a.spot=none)(m j:Nat):(a.add m).add j=⟨a.block,a.off+m+j,none⟩:=by
 obtain⟨b,o,sp⟩:=a;simp only at h;subst h;unfold Addr.add;by_cases hm:m=0
 .by_cases hj:j=0
  .simp[hm,hj]
  .simp[hm,hj]
 .by_cases hj:j=0
  .simp[hm,hj]
  .simp[hm,hj]
def NP(f:TypeId->Option aB):List Field->Nat->Option aB
 |[],_=>some .nil
 |x::r,off=>match f x.type with
  |some s=>match NP f r (off+s.len),Nat.beq x.offset off with
   |some u,true=>some (s.app u)
   |_,_=>none
  |none=>none
def rowOf(P:Program):Nat->TypeId->Option aB
 |0,_=>none
 |n+1,t=>match P.underlying t with
  |some (.int k)=>some (.cons (.int k) .nil)
  |some .bool=>some (.cons .bool .nil)
  |some .string=>some (.cons .str .nil)
  |some (.slice e)=>match rowOf P n e with
   |some s=>match Nat.beq s.len (P.cellsOf e)&&Nat.ble 1 s.len with
    |true=>some (.cons (.sl e s) .nil)
    |false=>none
   |none=>none
  |some (.struct fs)=>match NP (rowOf P n) fs.toList 0 with
   |some r=>match Nat.beq r.len (P.cellsOf t)with
    |true=>match fs.toList.all λf=>match rowOf P n f.type with|some s=>Nat.beq s.len (P.cellsOf f.type)|none=>false with
     |true=>some r
     |false=>none
    |false=>none
   |none=>none
  |_=>none
theorem ai1{α:Type}{Q:Nat->α->Prop}:∀(n:Nat),(∀i,i<n->∃x,Q i x)->∃l:List α,l.length=n/\∀i x,l[i]? =some x->Q i x
 |0,_=>⟨[],rfl,λi x h=>by simp at h⟩
 |n+1,h=>by
  obtain⟨l,hl,hq⟩:=ai1 n λi hi=>h i (by omega);obtain⟨x,hx⟩:=h n (by omega);refine⟨l++[x],by simp[hl],λi y hy=>?_⟩;rcases arH i n with hi|hi
  .rw[arX (by omega)]at hy;exact hq i y hy
  .rw[arO (by omega)]at hy;have:i=n:=by
    rcases arH n i with h'|h'
    .rw[asi (by simp;omega)]at hy;cases hy
    .omega
   subst this;simp[hl]at hy;rw[← hy];exact hx
theorem ai2:∀(r s:aB),(r.app s).len=r.len+s.len
 |.nil,s=>by simp[aB.app,aB.len]
 |.cons c r,s=>by simp only[aB.app,aB.len,ai2 r s];omega
theorem abn{f:TypeId->Option aB}{S:Nat->Prop}{h:Array Obj}(cs:List Value)
 (part:∀(t:TypeId)(r:aB)(off:Nat),f t=some r->(∃g:Field,g.type=t/\g.offset=off)->True):∀(fs:List Field)(off:Nat)(r:aB),NP f fs off=some r->
 (∀g∈fs,∀s,f g.type=some s->∃x,bn h S s ((cs.drop g.offset).take s.len) x)->
 ∃x,bn h S r ((cs.drop off).take r.len) x
 |[],off,r,hr,_=>by
  cases hr;exact⟨(),by rw[bn];simp[aB.len]⟩
 |g::fs,off,r,hr,hall=>by
  rw[NP]at hr;split at hr
  .next s hs=>
   split at hr
   .next u hu hb=>
    cases hr;obtain⟨x,hx⟩:=hall g arC s hs;rw[arl hb]at hx;obtain⟨y,hy⟩:=abn cs part fs (off+s.len) u hu λg' hg'=>hall g' (arE _ hg');refine⟨agp s u x y,?_⟩;have:=bn.app s u x y _ _ hx hy;rw[ai2];have e:(cs.drop off).take (s.len+u.len)=(cs.drop off).take s.len++(cs.drop (off+s.len)).take u.len:=by rw[List.take_add,as3]
    rw[e];exact this
   .cases hr
  .cases hr
theorem Zt:∀(n:Nat)(t:TypeId)(r:aB),rowOf P n t=some r->∀(m:Nat)(base:Nat)(spare:Nat->Bool)(held:Bool)(cs:List Value)(x:DataW H×List MemPlace),
 DataW.trod enc P w base spare held m t cs=some x->∃y,bn w.heap (λb=>b<w.heap.size) r cs y
 |0,t,r,hr=>by cases hr
 |n+1,t,r,hr=>by
  intro m base spare held cs x hx;rw[rowOf]at hr;split at hr
  .next k hu=>cases hr;obtain⟨i,rfl,_,hwf⟩:=DataW.trod_int hu hx;simp only[Lit.wf,ark,arD]at hwf;exact⟨(i,()),by rw[bn];exact⟨_,[],rfl,by rw[jf];exact⟨rfl,hwf⟩,by rw[bn]⟩⟩
  .next hu=>cases hr;obtain⟨b,rfl,_⟩:=DataW.trod_bool hu hx;exact⟨(b,()),by rw[bn];exact⟨_,[],rfl,by rw[jf],by rw[bn]⟩⟩
  .next hu=>cases hr;obtain⟨s,rfl,_,hs⟩:=DataW.trod_string hu hx;refine⟨(s.data.toList,()),by rw[bn];exact⟨_,[],rfl,by rw[jf];exact⟨by simp,by simpa using hs⟩,by rw[bn]⟩⟩
  .next e hu=>
   split at hr
   .next s hs=>
    split at hr
    .next hb=>
     cases hr;rw[ark]at hb;have hlen:=arl hb.1;have hpos:1<=s.len:=by simpa[atI]using hb.2
     rcases DataW.trod_slice hu hx with⟨rfl,_⟩|⟨a,len,cap,elems,rest,k,_,rfl,_,hbase,hle,hmax,hel,hrow,_,_⟩
     .exact⟨([],()),by rw[bn];exact⟨_,[],rfl,by rw[jf];exact⟨by simp,.inl ⟨rfl,none,0,rfl⟩⟩,by rw[bn]⟩⟩
     .by_cases h0:len=0
      .subst h0;exact⟨([],()),by rw[bn];exact⟨_,[],rfl,by rw[jf];exact⟨by simp,.inl ⟨rfl,some a,cap,rfl⟩⟩,by rw[bn]⟩⟩
      .have each:∀i,i<len->∃(ys:List Value)(z:s.den),w.cells? base (a.add (i*P.cellsOf e)) (P.cellsOf e)=some ys/\bn w.heap (λb=>b<w.heap.size) s ys z:=by intro i hi;have h1:=hrow i hi;rw[ars (by omega)]at h1;obtain⟨ys,hys,hy2⟩:=Option.bind_eq_some_iff.1 h1;obtain⟨z,hz⟩:=Zt n e s hs k base spare held ys _ hy2;exact⟨ys,z,hys,hz⟩
       obtain⟨ys0,z0,hc0,hz0⟩:=each 0 (by omega);obtain⟨_,hl0,hcell0⟩:=World.cells?_some hc0;have Zu:=hcell0 0 (by omega);simp only[atg,Addr.add,if_true]at Zu;have apF:∃v,ys0[0]? =some v:=⟨ys0[0]'(by omega),by simp[show 0<ys0.length by omega]⟩;obtain⟨v0,hv0⟩:=apF;rw[hv0]at Zu;unfold World.cell? at Zu;split at Zu
       .next c ty fz hblk=>
        split at Zu
        .cases Zu
        .next hsp=>
         have hspot:a.spot=none:=by cases h:a.spot with|none=>rfl|some q=>rw[h]at hsp;simp at hsp
         have ha:a=⟨a.block,a.off,none⟩:=by cases a;simp at hspot;rw[hspot]
         have hb':a.block<w.heap.size:=by obtain⟨hlt,_⟩:=ar5.1 hblk;exact hlt
         have rows:∀i,i<len->∃z:s.den,bn w.heap (λb=>b<w.heap.size) s ((c.toList.drop (a.off+i*s.len)).take s.len) z:=by
          intro i hi;obtain⟨ys,z,hcs,hz⟩:=each i hi;obtain⟨_,hl,hcell⟩:=World.cells?_some hcs;refine⟨z,?_⟩;have:(c.toList.drop (a.off+i*s.len)).take s.len=ys:=by
           refine asQ λj=>?_;rcases arH j s.len with hj|hj
           .rw[asO hj,arV];have h2:=hcell j (by omega);have hadd:=add_add a hspot (i*P.cellsOf e) j;rw[← hlen]at hadd h2;rw[hadd]at h2;unfold World.cell? at h2;simp only[hblk,Option.isSome_none,asU,atH]at h2;rw[← h2];simp
           .rw[asi (by simp;omega),asi (by omega)]
          rw[this];exact hz
         obtain⟨l,hll,hlq⟩:=ai1 len rows;refine⟨(l,()),by rw[bn];exact⟨_,[],rfl,by rw[jf];exact⟨by omega,.inr ⟨a.block,a.off,cap,c,ty,fz,by rw[hll,← ha],by omega,hb',hblk,hlq⟩⟩,by rw[bn]⟩⟩
       .cases Zu
    .cases hr
   .cases hr
  .next fs hu=>
   split at hr
   .next r' hf=>
    split at hr
    .next hb=>
     split at hr
     .next hall=>
      cases hr;obtain⟨xs,k,_,_,hcl,hxl,hparts⟩:=DataW.trod_struct hu hx;have hlen:=arl hb;have:=abn (h:=w.heap) (S:=λb=>b<w.heap.size) cs (λ_ _ _ _ _=>trivial) fs.toList 0 _ hf ?_
      .obtain⟨y,hy⟩:=this;refine⟨y,?_⟩;rw[as4,asC (by omega)]at hy;exact hy
      .intro g hg s hs;have hg2:=arK.1 hall g hg;rw[hs]at hg2;have hsl:=arl hg2;obtain⟨i,hi,hgi⟩:=atM.1 hg;have hp:=hparts i g (by rw[← hgi];simp[show i<fs.size by simpa using hi]);rw[ars (by simp at hi;omega)]at hp;rw[hsl];exact Zt n g.type s hs k base spare held _ _ hp
     .cases hr
    .cases hr
   .cases hr
  .cases hr
def CT.csh:CT->gI
 |.int k=>.int k
 |.bool=>.bool
 |.str=>.str
 |.sl e r=>.sl e r false
def toC:(c:CT)->c.den->c.csh.den
 |.int _,x=>x
 |.bool,x=>x
 |.str,x=>x
 |.sl _ _,x=>x
def aB.shs:aB->List gI
 |.nil=>[]
 |.cons c r=>c.csh::r.shs
def toCs:(r:aB)->r.den->lg r.shs
 |.nil,_=>()
 |.cons c r,x=>(toC c x.1,toCs r x.2)
theorem adJ(X:V):∀(r:aB)(vs:List Value)(x:r.den),bn X.w.heap (X.bZ false) r vs x->ai X (gY r.shs (toCs r x)) vs
 |.nil,vs,x,h=>by rw[bn]at h;subst h;trivial
 |.cons c r,vs,(x,y),h=>by
  rw[bn]at h;obtain⟨v,vs',rfl,h1,h2⟩:=h;refine⟨?_,adJ X r vs' y h2⟩;cases c with
  |int k=>exact h1
  |bool=>exact h1
  |str=>exact h1
  |sl e r=>exact h1
def ajX(P:Program)(t:TypeId):Option pF:=
 match rowOf P 64 t with
 |some r=>match P.underlying t with
  |some (.struct _)=>some (.agg r.shs)
  |some (.array _ _)=>none
  |_=>match r with
   |.cons c .nil=>some (.one c.csh)
   |_=>none
 |none=>none
def LJ(P:Program):List TypeId->Option (List iq)
 |[]=>some []
 |t::ts=>match ajX P t,LJ P ts with
  |some s,some l=>some (.v s::l)
  |_,_=>none
def start(w:World):V:=⟨w,w.heap.size,λb=>b<w.heap.size,λ_=>undef,λ_=>none⟩
theorem ant{t:TypeId}{s:pF}(hs:ajX P t=some s){base base':Nat}{sp:Nat->Bool}{hd:Bool}{v:Value}{d:DataW H}{p:List MemPlace}
 (ht:DataW.Trod enc P w base sp hd t v d p) (hv:Value.okWide P w .any base' t v):∃x:s.den,dQ (start w) (s.val x) v:=by
 unfold ajX at hs;split at hs
 .next r hr=>
  obtain⟨m,hm⟩:=ht;obtain⟨y,hy⟩:=Zt 64 t r hr m base sp hd _ _ hm;have hy':bn (start w).w.heap ((start w).bZ false) r v.cells.toList y:=
   bn.mono (λb hb=>⟨⟨⟨hb,λ_=>hb,λo x hx=>by cases hx⟩,λe=>by cases e⟩,rfl⟩) r _ y hy
  unfold Value.okWide at hv;split at hs
  .next fs hu=>cases hs;rw[hu]at hv;obtain⟨cs,rfl,_,_⟩:=hv;exact⟨toCs r y,cs,rfl,adJ (start w) r _ y hy'⟩
  .cases hs
  .next hns hna=>
   split at hs
   .next c=>
    cases hs;have hcell:v.cells=#[v]:=by
     cases hv2:v<;>first
      |rfl
      |(exfalso
        rw[hv2]at hv;split at hv
        .next hu=>exact hns _ hu
        .next hu=>exact hna _ _ hu
        .unfold Go.Cell.okWide at hv;split at hv<;>first|(rename_i h1 h2;cases h2;done)|(rename_i h2;cases h2;done)|skip;unfold Go.Cell.ok at hv;split at hv<;>first|(rename_i h1 h2;cases h2;done)|exact hv)
    have:=adJ (start w) _ _ y hy';rw[hcell]at this;exact⟨toC c y.1,this.1⟩
   .cases hs
 .cases hs
theorem aha:∀(ts:List TypeId)(sh:List iq),LJ P ts=some sh->∀{base base':Nat}{sp:Nat->Bool}{hd:Bool}(vs:List Value)(ds:List (DataW H))(p:List MemPlace),
 DataW.TrodAll enc P w base sp hd ts vs ds p->(∀(j:Nat) t v,ts[j]? =some t->vs[j]? =some v->Value.okWide P w .any base' t v)->∃x:jZ sh,oh (start w) (uJ sh x) vs
 |[],sh,hs,_,_,_,_,vs,ds,p,h,_=>by
  cases hs;cases vs with
  |nil=>exact⟨(),trivial⟩
  |cons v vs=>cases ds<;>simp[DataW.TrodAll]at h
 |t::ts,sh,hs,base,base',sp,hd,vs,ds,p,h,hok=>by
  rw[LJ]at hs;split at hs
  .next s l h1 h2=>
   cases hs;cases vs with
   |nil=>cases ds<;>simp[DataW.TrodAll]at h
   |cons v vs=>
    cases ds with
    |nil=>simp[DataW.TrodAll]at h
    |cons d ds=>obtain⟨a,b,g1,g2,_⟩:=h;obtain⟨x,hx⟩:=ant h1 g1 (hok 0 t v rfl rfl);obtain⟨y,hy⟩:=aha ts l h2 vs ds b g2 λj t' v' ht' hv'=>hok (j+1) t' v' (by simpa using ht') (by simpa using hv');exact⟨(x,y),hx,hy⟩
  .cases hs
mutual
theorem CT.Ie:∀(c:CT),c.beq c=true
 |.int k=>by simp[CT.beq]
 |.bool=>rfl
 |.str=>rfl
 |.sl e r=>by simp[CT.beq,aB.Ie r]
theorem aB.Ie:∀(r:aB),r.beq r=true
 |.nil=>rfl
 |.cons c r=>by simp[aB.beq,CT.Ie c,aB.Ie r]
end
theorem afe:∀(c:gI)(x:c.den),c.read (c.cell x)=some x
 |.int k,x=>by simp[gI.cell,gI.read]
 |.bool,x=>rfl
 |.str,x=>rfl
 |.sl e r fr,l=>by
  simp only[gI.cell,gI.read,ar8];have h1:LC fr fr=true:=by cases fr<;>rfl
  have h2:r.beq r=true:=aB.Ie r;rw[h1];simp only[Bool.and_self];rw[dif_pos h2];rfl
 |.nil,x=>rfl
 |.ref o,x=>by simp[gI.cell,gI.read]
 |.junk,x=>rfl
theorem abo:∀(l:List gI)(x:lg l),jJ l (gY l x)=some x
 |[],_=>rfl
 |c::r,x=>by rw[gY,jJ,afe c x.1,abo r x.2]
theorem ahb:∀(ts:List TypeId)(l:List iq),LJ P ts=some l->∀(x:jZ l),Gj l (uJ l x)=some x
 |[],l,h,x=>by cases h;rfl
 |t::ts,l,h,x=>by
  rw[LJ]at h;split at h
  .next s r h1 h2=>
   cases h;have ih:=ahb ts r h2 x.2;cases s with
   |one c=>
    have e:(iq.v (.one c)).read ((iq.v (.one c)).val x.1)=some x.1:=afe c x.1;rw[uJ,Gj,ih,e]
   |agg l=>have e:(iq.v (.agg l)).read ((iq.v (.agg l)).val x.1)=some x.1:=abo l x.1;rw[uJ,Gj,ih,e]
  .cases h
def adK:Out:=⟨[(false,[.plain (.bool true)])],none⟩
theorem ald{G:jF}{f:FuncId}{fn:Func}{sh:List iq}{F:jZ sh->Prop×Out}(hcon:nG P G f (EK sh F))(hsh:LJ P fn.params.toList=some sh)
 (hF:∀x,J6 sh x->(F x).1/\(F x).2=adK) (hG:G.ok w) {base base':Nat} {sp:Nat->Bool} {hd:Bool} {args:Array Value} {ds:List (DataW H)} {p:List MemPlace}
 (hA:DataW.TrodAll enc P w base sp hd fn.params.toList args.toList ds p) (hok:∀(j:Nat) t v,fn.params[j]? =some t->args[j]? =some v->Value.okWide P w .any base' t v):
 Calls P f args w λe w'=>e=.returned (.bool true)/\w'.os=w.os/\w'.output=w.output/\w.heap.size<=w'.heap.size/\∀b,b<w.heap.size->w'.heap[b]? =w.heap[b]? :=by
 obtain⟨x,hx⟩:=aha _ _ hsh _ _ _ hA λj t v ht hv=>hok j t v (by simpa using ht) (by simpa using hv);have hin:=Cb sh x _ hx;obtain⟨hp,ho⟩:=hF x hin;have hc:EK sh F (uJ sh x)=some ((F x).1,adK):=by unfold EK;rw[ahb _ _ hsh x];simp only[← ho]
 refine(hcon (uJ sh x) _ _ 0 _ args w hc hp hG hx).mono ?_;rintro e w' ⟨v,vals,rfl,h1,h2,h3,h4,h5,h6,_,_⟩;have hv:v=.bool true:=h6;exact⟨by rw[hv],h1,h3,h4,h5⟩
theorem amd{w w':World}(h1:w'.os=w.os)(h3:w'.output=w.output)(h5:∀b,b<w.heap.size->w'.heap[b]? =w.heap[b]?)(may:MemPlace->Prop):w.keptBut w' may:=by
 refine⟨h1,h3,λi hi=>?_⟩;rw[h5 i hi];cases hw:w.heap[i]? with
 |none=>trivial
 |some o=>cases o<;>simp
theorem ame{w w':World}(h5:∀b,b<w.heap.size->w'.heap[b]? =w.heap[b]?){p:MemPlace}(hp:p.block<w.heap.size):w.sameAt w' p:=by
 cases p with
 |cell b off=>
  show w'.cell? _=w.cell? _;unfold World.cell?;simp only;rw[h5 b hp]
 |map b=>exact h5 b hp
end Go.Fw
namespace Go.Fw
open Go
variable {P:Program} {G:jF} {f:FuncId}
theorem aio{args:List Arg}{i:Nat}{x:Arg}{p:Nat}(hp:p / 64≠i):dw (args.set i x) p=dw args p:=by unfold dw;rw[asj (λh=>hp h.symm)]
theorem Vu{args:List Arg}{i:Nat}{e:TypeId}{r:aB}{l:List r.den}(hi:i<args.length)(p:Nat)(hp:p / 64=i):dw (args.set i (.own e r l)) p=if p=i*64+49 then some (.arr e r l false)else none:=by
 unfold dw;rw[hp,asD hi];by_cases h:p=i*64+49
 .subst h;have:Nat.beq ((i*64+49)%64) 49=true:=by
   have:(i*64+49)%64=49:=by omega
   rw[this];rfl
  simp[this]
 .have:Nat.beq (p%64) 49=false:=by
   cases hb:Nat.beq (p%64) 49 with
   |false=>rfl
   |true=>have:=arl hb;omega
  simp[this,h]
theorem ai3{args:List Arg}{i:Nat}{v:SV}(ha:args[i]? =some (.sv v))(p:Nat)(hp:p / 64=i):dw args p=none:=by unfold dw;rw[hp,ha]
def LK(γ:Nat->Value)(i:Nat)(o:Nat):Value:=if o=i*64+49 then .slice none 0 0 else γ o
theorem qc.mono{X Y:V}(h:X.le Y):∀(a:Arg)(v:Value),qc X a v->qc Y a v
 |.sv x,v,H=>dQ.mono h x v H
 |.kp cs,v,H=>aZ.mono h (.dS cs 0) v H
 |.fn f caps,v,H=>aZ.mono h (.fn f caps) v H
 |.own _ _ _,_,H|.ptr _,_,H=>H.elim
theorem Ll.mono{X Y:V}(h:X.le Y)(i:Nat):∀(a:Arg)(v:Value),Ll X i a v->Ll Y i a v
 |.own _ _ _,v,H=>aS.mono h (.ref (i*64+49)) v H
 |.ptr _,v,H=>aZ.mono h (.bG (i*64+48) 0) v H
 |.sv x,v,H=>qc.mono h (.sv x) v H
 |.kp cs,v,H=>qc.mono h (.kp cs) v H
 |.fn f caps,v,H=>qc.mono h (.fn f caps) v H
theorem wV.nil{X Y:V}(h:X.le Y){e:TypeId}{r:aB}:∀(args:List Arg)(vs:List Value)(j i:Nat),args[i]? =some (.sv (.one .nil))->
 Y.ah ((j+i)*64+49)=some (.arr e r [] false)->Y.γ ((j+i)*64+49)=.slice none 0 0->wV X j args vs->wV Y j (args.set i (.own e r [])) vs
 |[],[],_,i,ha,_,_,_=>by simp at ha
 |[],_::_,_,_,_,_,_,H=>H.elim
 |_::_,[],_,_,_,_,_,H=>H.elim
 |a::args,v::vs,j,0,ha,ho,hγ,⟨h1,h2⟩=>by
  have ha:a=.sv (.one .nil):=by simpa using ha
  subst ha;have hv:v=.slice none 0 0:=h1;refine⟨⟨⟨e,r,[],false,ho⟩,?_,by rw[hv];rfl⟩,?_⟩
  .rw[hv];exact hγ.symm
  .show wV Y (j+1) args vs;clear h1 ha ho hγ hv;generalize j+1=k at h2
   induction args generalizing k vs with
   |nil=>cases vs with
    |nil=>trivial
    |cons _ _=>exact h2.elim
   |cons b args ih=>cases vs with
    |nil=>exact h2.elim
    |cons u vs=>exact⟨Ll.mono h k b u h2.1,ih vs (k+1) h2.2⟩
 |a::args,v::vs,j,i+1,ha,ho,hγ,⟨h1,h2⟩=>by
  have e1:j+(i+1)=j+1+i:=by omega
  rw[e1]at ho hγ;exact⟨Ll.mono h j a v h1,wV.nil h args vs (j+1) i (by simpa using ha) ho hγ h2⟩
theorem jy.anZ{con Vt:FT}(i:Nat)(e:TypeId)(r:aB)(hr:0<r.len)(h:jy P G f con)
 (hc:∀args p ρ,Vt args=some (p,ρ)->p->args[i]? =some (.sv (.one .nil))/\(∀t,kK (ρ.aK t) (i*64+49)=none)/\∃q,con (args.set i (.own e r []))=some (q,ρ)/\q):jy P G f Vt:=by
 intro args p ρ hcon hp;obtain⟨ha,hF,q,hq1,hq⟩:=hc args p ρ hcon hp;have hlen:i<args.length:=by have:=arz.1 ha;exact this.1
 obtain⟨hex,hcall⟩:=h _ q ρ hq1 hq;refine⟨hex,λk S γ vs w hG hrep mV hsep hfree=>?_⟩;have hO:∀o,o≠i*64+49->dw (args.set i (.own e r [])) o=dw args o:=by
  intro o ho;by_cases hd:o / 64=i
  .rw[Vu hlen o hd,ai3 ha o hd,if_neg ho]
  .exact aio hd
 have hN:dw (args.set i (.own e r [])) (i*64+49)=some (.arr e r [] false):=by rw[Vu hlen _ (by omega),if_pos rfl]
 have hN':dw args (i*64+49)=none:=ai3 ha _ (by omega);have hγN:LK γ i (i*64+49)=.slice none 0 0:=if_pos rfl;have hγ:∀o,o≠i*64+49->LK γ i o=γ o:=λo ho=>if_neg ho;have hne:∀o x,dw args o=some x->o≠i*64+49:=λo x ho e=>by rw[e,hN']at ho;cases ho
 have le:V.le ⟨w,w.heap.size,S,γ,dw args⟩ ⟨w,w.heap.size,S,LK γ i,dw (args.set i (.own e r []))⟩:=by
  refine⟨arF _,λb hb=>⟨⟨hb.1,hb.2.1,λo x hx=>?_⟩,rfl⟩,λo cs hx=>⟨⟨cs,?_⟩,hγ o (hne o _ hx)⟩,λo e r l fr hx=>⟨⟨l,fr,?_⟩,hγ o (hne o _ hx)⟩⟩
  .by_cases ho:o=i*64+49
   .show blk (LK γ i o)≠some b;rw[ho,hγN];intro hh;cases hh
   .show blk (LK γ i o)≠some b;rw[hγ o ho];exact hb.2.2 o x ((hO o ho).symm.trans hx)
  .exact(hO o (hne o _ hx)).trans hx
  .exact(hO o (hne o _ hx)).trans hx
 have hbl:∀b,uI (dw (args.set i (.own e r []))) (LK γ i) b↔uI (dw args) γ b:=by
  intro b;constructor
  .rintro⟨o,x,h1,h2⟩;by_cases ho:o=i*64+49
   .rw[ho,hγN]at h2;cases h2
   .exact⟨o,x,(hO o ho)▸h1,(hγ o ho)▸h2⟩
  .rintro⟨o,x,h1,h2⟩;exact⟨o,x,(hO o (hne o x h1)).trans h1,by rw[hγ o (hne o x h1)];exact h2⟩
 refine Calls.mono (hcall k S (LK γ i) vs w hG (wV.nil (Y:=⟨w,w.heap.size,S,LK γ i,dw (args.set i (.own e r []))⟩) le args vs.toList 0 i ha (by rw[arQ];exact hN) (by rw[arQ];exact hγN) hrep) ?_ ?_ hfree) ?_
 .intro o x hx;by_cases ho:o=i*64+49
  .subst ho;rw[hN]at hx;cases hx;refine⟨⟨[],?_,hr,λb hb=>?_,λj x hj=>by simp at hj⟩,λb hb=>?_⟩
   .show w.ownsRow 0 e r.len (LK γ i (i*64+49)) 0 [];rw[hγN];exact auG w 0 e r.len
   .have hb:blk (LK γ i (i*64+49))=some b:=hb;rw[hγN]at hb;cases hb
   .rw[hγN]at hb;cases hb
  .have hx':dw args o=some x:=(hO o ho)▸hx;have:=mV o x hx';refine⟨bK.mono le o x (λb _=>rfl) (hγ o ho) this.1,λb hb=>this.2 b ((hγ o ho)▸hb)⟩
 .intro o x q y b hx hy hoq hb;by_cases ho:o=i*64+49
  .rw[ho,hγN]at hb;cases hb
  by_cases hq':q=i*64+49
  .rw[hq',hγN];intro hh;cases hh
  rw[hγ o ho]at hb;rw[hγ q hq'];exact hsep o x q y b ((hO o ho)▸hx) ((hO q hq')▸hy) hoq hb
 .rintro en w' ⟨t,ht,v,γ',h1,h2,h3,h4,h5,h6,h7,h8,h9,h10⟩;have ajY:∀o x,kK (ρ.aK t) o=some x->o≠i*64+49:=λo x ho e=>by rw[e,hF t]at ho;cases ho
  have hL:oV S (args.set i (.own e r [])) (ρ.aK t) (LK γ i)=oV S args (ρ.aK t) γ:=by
   funext b
   apply propext;constructor
   .rintro⟨a1,a2⟩;refine⟨a1.imp_right (hbl b).1,λq y hy=>?_⟩;have:=a2 q y hy
    rwa [hγ q (ajY q y hy)]at this
   .rintro⟨a1,a2⟩;refine⟨a1.imp_right (hbl b).2,λq y hy=>?_⟩;rw[hγ q (ajY q y hy)];exact a2 q y hy
  rw[hL]at h7 h8 h10;refine⟨t,ht,v,γ',h1,h2,h3,h4,h5,λb hb hn=>h6 b hb (λh=>hn ((hbl b).1 h)),h7,λo x hx=>?_,h9,λo x hx=>?_⟩
  .obtain⟨a1,a2⟩:=h8 o x hx;refine⟨a1,λb hb=>?_⟩;obtain⟨b1,b2,b3⟩:=a2 b hb;refine⟨b1,b2.imp_right (hbl b).1,λq y hy=>?_⟩;have:=b3 q y hy
   rwa [hγ q (ajY q y hy)]at this
  .obtain⟨a1,a2⟩:=h10 o x hx;exact⟨a1.trans (hγ o (ajY o x hx)),a2⟩
theorem ale{l:List gI}{e:TypeId}{r:aB}{rest:List fV}{cO:List pW}{F:jq (.ptr l:: .own e r::rest)->Prop×(lT cO×kY (.ptr l:: .own e r::rest)->Prop)}
 {F':jq (.ptr l:: .p (.v (.one .nil))::rest)->Prop×(lT cO×kY (.ptr l:: .own e r::rest)->Prop)} (hr:0<r.len) (h:jy P G f (pK (.ptr l:: .own e r::rest) cO F))
 (hF:∀a x,(F' (a,(),x)).1->(F (a,[],x)).1) (hF2:∀a x,(F' (a,(),x)).1->(F' (a,(),x)).2=(F (a,[],x)).2):jy P G f (pK (.ptr l:: .p (.v (.one .nil))::rest) cO F'):=by
 refine jy.anZ 1 e r hr h λargs p ρ hcon hp=>?_
 match args,hcon with
 |[],hcon=>simp[pK,iF]at hcon
 |[a],hcon=>
  have:iF (.ptr l:: .p (.v (.one .nil))::rest) [a]=none:=by simp only[iF];split<;>simp_all
  simp[pK,this]at hcon
 |a::b::args,hcon=>
  cases ha:(fV.ptr l).read a with
  |none=>simp[pK,iF,ha]at hcon
  |some a'=>
  cases hb:(fV.p (.v (.one .nil))).read b with
  |none=>simp[pK,iF,ha,hb]at hcon
  |some b'=>
  cases hx:iF rest args with
  |none=>simp[pK,iF,ha,hb,hx]at hcon
  |some x=>
   have hb2:b=.sv (.one .nil):=by
    cases b with
    |sv s=>cases s with
     |one c=>cases c with
      |nil=>rfl
      |int k n=>cases hb
      |bool k=>cases hb
      |str k=>cases hb
      |sl e r l fr=>cases hb
      |ref o=>cases hb
      |junk=>cases hb
     |agg cs=>cases hb
    |_=>cases hb
   subst hb2;simp only[pK,iF,ha,hb,hx]at hcon;have hcon:=Option.some.inj hcon;have h1:(F' (a',(),x)).1=p:=congrArg Prod.fst hcon;have h2:(⟨lT cO×kY (.ptr l:: .own e r::rest),(F' (a',(),x)).2,λt=>⟨iE cO t.1,none⟩,λt=>iG (.ptr l:: .own e r::rest) t.2⟩:Jp)=ρ:=congrArg Prod.snd hcon;have hp':(F' (a',(),x)).1:=h1▸hp;subst h2;refine⟨rfl,λt=>rfl,(F (a',[],x)).1,?_,hF a' x hp'⟩
   .have ho:(fV.own e r).read (.own e r [])=some []:=by unfold fV.read;simp only[ar8];rw[dif_pos (aB.Ie r)];rfl
    simp only[List.set_cons_succ,auy,pK,iF,ha,ho,hx];have:=hF2 a' x hp';exact congrArg (λz=>some ((F (a',[],x)).1,(⟨lT cO×kY (.ptr l:: .own e r::rest),z,λt=>⟨iE cO t.1,none⟩,λt=>iG (.ptr l:: .own e r::rest) t.2⟩:Jp))) this.symm
end Go.Fw
namespace Go.Fw
open Go
theorem af{b:Bool}{A B:Prop}(h1:b=true->A)(h2:b=false->B):cond b A B:=by
 cases b
 .exact h2 rfl
 .exact h1 rfl
theorem drop_cons{α:Type}(a:List α)(n:Nat)(d:α)(h:n<a.length):a.drop n=a.getD n d::a.drop (n+1):=by rw[atp h,arp,ars h,auj]
theorem fD(z:Int)(h:-9223372036854775808<=z/\z<=9223372036854775807):IntKind.i64.wrap z=z:=IntWalk.i64_in z (by omega)
theorem maxLen_eq:maxLen=9223372036854775807:=by decide
theorem bW:big=4294967296:=rfl
theorem getD_mem{α:Type}{l:List α}{n:Nat}{d:α}(h:n<l.length):l.getD n d∈l:=by rw[arp,ars h,auj];exact asF h
end Go.Fw
namespace Go.Fw
open Go
end Go.Fw
namespace Go.Fw
open Go
variable {P:Program}
def oZ(cur:Array Value)(o:Nat)(cs:List Value):Array Value:=(cur.toList.take o++cs++cur.toList.drop (o+cs.length)).toArray
theorem sO(cur:Array Value)(o:Nat)(cs:List Value)(h:o+cs.length<=cur.size):(oZ cur o cs).size=cur.size:=by simp only[oZ,atm,arv,aro,arY,arL];omega
theorem tC(cur:Array Value)(o:Nat)(cs:List Value)(k:Nat)(h:o+cs.length<=cur.size):
 (oZ cur o cs).toList[k]? =if k<o then cur.toList[k]? else if k<o+cs.length then cs[k-o]? else cur.toList[k]? :=by
 have ht:(cur.toList.take o).length=o:=by rw[aro,arL];omega
 simp only[oZ];by_cases h1:k<o
 .rw[if_pos h1,ar6,arX (by omega),arG,if_pos h1]
 .rw[if_neg h1];by_cases h2:k<o+cs.length
  .rw[if_pos h2,ar6,arO (by omega),ht,arX (by omega)]
  .rw[if_neg h2,arO (by rw[arv];omega),arv,ht,arV];congr 1;omega
theorem ajZ(R:Array Value)(a:Nat)(vs ds:List Value)(h:a+vs.length+ds.length<=R.size):
 (oZ (oZ R a vs) (a+vs.length) ds).toList.take (a+vs.length+ds.length)=R.toList.take a++(vs++ds):=by
 have s1:=sO R a vs (by omega);have hl:(R.toList.take a).length=a:=by rw[aro,arL];omega
 apply asQ;intro j;rw[arG];by_cases h1:j<a
 .rw[if_pos (by omega),tC _ _ _ _ (by omega),if_pos (by omega),tC _ _ _ _ (by omega),if_pos h1,arX (by omega),arG,if_pos h1]
 .rw[arO (by omega),hl];by_cases h2:j<a+vs.length
  .rw[if_pos (by omega),tC _ _ _ _ (by omega),if_pos h2,tC _ _ _ _ (by omega),if_neg h1,if_pos h2,arX (by omega)]
  .rw[arO (by omega)];by_cases h3:j<a+vs.length+ds.length
   .rw[if_pos h3,tC _ _ _ _ (by omega),if_neg h2,if_pos h3];congr 1;omega
   .rw[if_neg h3,asi (by omega)]
theorem aj0(R:Array Value)(a:Nat)(vs ds:List Value)(h:a+vs.length+ds.length<=R.size):
 (oZ (oZ R (a+vs.length) ds) a vs).toList.take (a+vs.length+ds.length)=R.toList.take a++(vs++ds):=by
 have s1:=sO R (a+vs.length) ds (by omega);have hl:(R.toList.take a).length=a:=by rw[aro,arL];omega
 apply asQ;intro j;rw[arG];by_cases h1:j<a
 .rw[if_pos (by omega),tC _ _ _ _ (by omega),if_pos (by omega),tC _ _ _ _ (by omega),if_pos (by omega),arX (by omega),arG,if_pos h1]
 .rw[arO (by omega),hl];by_cases h2:j<a+vs.length
  .rw[if_pos (by omega),tC _ _ _ _ (by omega),if_neg h1,if_pos h2,arX (by omega)]
  .rw[arO (by omega)];by_cases h3:j<a+vs.length+ds.length
   .rw[if_pos h3,tC _ _ _ _ (by omega),if_neg h1,if_neg h2,tC _ _ _ _ (by omega),if_neg h2,if_pos h3];congr 1;omega
   .rw[if_neg h3,asi (by omega)]
theorem ahc(w:World)(g:Nat)(a b:Array Value):(w.setRow g a).setRow g b=w.setRow g b:=setRow_setRow w g a b
theorem size_setRow(w:World)(g:Nat)(a:Array Value):(w.setRow g a).heap.size=w.heap.size:=by simp[World.setRow]
theorem Dp(w:World)(dT sT ty e:TypeId)(k g o dl dc:Nat)(sa:Addr)(sl sc n:Nat)(cur:Array Value)(t:TypeId)(cs:List Value)
 (hu:P.underlying dT=some (.slice e)) (hs:(P.info? e).map (·.size)=some k) (hg:w.heap[g]? =some (.cells cur t (0,0))) (hn:Nat.min sl dl=n) (hcl:cs.length=n*k)
 (hsrc:∀j v,cs[j]? =some v->w.cell? (sa.add j)=some v) (hfit:o+cs.length<=cur.size) (h1:∀v∈cs,v.oneCell'=true):
 (Builtin.copy_ #[dT,sT] ty #[.slice (some ⟨g,o,none⟩) dl dc,.slice (some sa) sl sc]).run P w=.ok (goInt n) (w.setRow g (oZ cur o cs)):=by
 have hl:=run_loadCells_list (P:=P) w sa cs hsrc;have hst:=auF P g o t cs 0 cur w hg (by simpa using hfit) h1;cases hq:P.info? e with
 |none=>simp[hq]at hs
 |some i=>
  have hi:i.size=k:=by simpa[hq]using hs
  simp[Builtin.copy_,arT hu,Builtin.lenOf,Builtin.firstCells,sizeOf,typeInfo,hq,hi,hn,← hcl,hl,hst,oZ]
theorem Vw(v:Value)(h:v.ownBlock=none\/True):∀{n:Nat}{e:TypeId}{k b0:Nat}{xs:List Value}{w:World},w.ownsRow b0 e k v n xs->blk v=v.ownBlock:=by intro n e k b0 xs w hw;rcases hw.2 with⟨rfl,_⟩|⟨g,cap,cur,rfl,_⟩<;>rfl
def abp(P:Program)(f:FuncId)(e:TypeId)(k:Nat):Prop:=
 ∀(w:World)(v u:Value)(n i:Nat)(xs ys:List Value),w.ownsRow 0 e k v n xs->w.ownsRow 0 e k u 1 ys->(∀b,v.ownBlock=some b->u.ownBlock≠some b)->i<=n->n<=1000->
  (∀x∈xs,x.oneCell'=true)->(∀x∈ys,x.oneCell'=true)->
  Calls P f #[v,.int .i64 i,u] w λen w'=>∃v',en=.returned v'/\w'.ownsRow 0 e k v' (n+1) (xs.take (i*k)++(ys++xs.drop (i*k)))/\w.grownBy w' v.ownBlock/\
   (∀g,v'.ownBlock=some g->v.ownBlock=some g\/w.heap.size<=g)
theorem ahd{h:Array Obj}{S:Nat->Prop}{r:aB}{xs:List Value}{l:List r.den}(hlen:xs.length=l.length*r.len)(hx:∀i x,l[i]? =some x->bn h S r ((xs.drop (i*r.len)).take r.len) x)(hpos:0<r.len):
 ∀x∈xs,x.oneCell'=true:=by
 intro x hm;obtain⟨j,hj,rfl⟩:=atM.1 hm;have hq:j / r.len<l.length:=by rw[Nat.div_lt_iff_lt_mul hpos];omega
 refine bn.ones r _ _ (hx (j / r.len) _ (ars hq)) _ ?_;refine List.mem_iff_getElem?.2 ⟨j%r.len,?_⟩;have hd:=auU j r.len;rw[arG,if_pos (aub _ hpos),arV,aur,hd,ars hj]
theorem aip(xs ys:List Value)(k n i q:Nat)(hxs:xs.length=n*k)(hys:ys.length=k)(hi:i<=n):
 ((xs.take (i*k)++(ys++xs.drop (i*k))).drop (q*k)).take k=if q<i then(xs.drop (q*k)).take k else if q=i then ys else(xs.drop ((q-1)*k)).take k:=by
 have hik:i*k<=xs.length:=by rw[hxs];exact arN _ hi
 have hlt:(xs.take (i*k)).length=i*k:=by rw[aro];omega
 by_cases h1:q<i
 .have hqk:q*k+k<=i*k:=by
   have:(q+1)*k<=i*k:=arN _ h1
   rwa [ar2,auZ]at this
  rw[if_pos h1,asL (by omega),asB (by rw[arY];omega),auu,atc];congr 1;omega
 .rw[if_neg h1];by_cases h2:q=i
  .subst h2;rw[if_pos rfl];have h0:(xs.take (q*k)++(ys++xs.drop (q*k))).drop (q*k)=ys++xs.drop (q*k):=by rw[asL (by omega),atz (by omega),asE]
   rw[h0,asB (by omega),asC (by omega)]
  .rw[if_neg h2];have hqi:i+1<=q:=by omega
   have e1:q*k=i*k+(k+(q-1-i)*k):=by
    have:q=i+(1+(q-1-i)):=by omega
    conv=>lhs;rw[this,ar2,ar2,auZ]
   have e2:(q-1)*k=i*k+(q-1-i)*k:=by rw[← ar2];congr 1;omega
   have h0:(xs.take (i*k)++(ys++xs.drop (i*k))).drop (i*k+k)=xs.drop (i*k):=by rw[← as3,asL (by omega),atz (by omega:(xs.take (i*k)).length<=i*k),asE,asL (by omega),atz (by omega:ys.length<=k),asE]
   rw[e1,e2,← auB,← as3,h0,as3]
theorem Iz{s:fV}{sh:List fV}:∀{args:List Arg}{d:jq (s::sh)},iF (s::sh) args=some d->∃x xs,args=x::xs/\s.read x=some d.1/\iF sh xs=some d.2
 |[],_,h=>by simp[iF]at h
 |x::xs,d,h=>by
  rw[iF]at h;split at h
  .next a b h1 h2=>cases h;exact⟨x,xs,rfl,h1,h2⟩
  .cases h
theorem abq:∀{args:List Arg}{d:jq []},iF [] args=some d->args=[]
 |[],_,_=>rfl
 |_::_,_,h=>by simp[iF]at h
abbrev LM(e:TypeId)(r:aB):List fV:=[.own e r,.p (.v (.one (.int .i64))),.own e r]
abbrev ahe(e:TypeId)(r:aB):List pW:=[.one (.own e r false)]
theorem fV.ahf{e:TypeId}{r:aB}{x:Arg}{d:List r.den}(h:(fV.own e r).read x=some d):x=.own e r d:=by
 cases x with
 |own f s l=>
  simp only[fV.read]at h;split at h
  .next hb=>
   have he:=arl hb;subst he;split at h
   .next hs=>have hr:=aB.eq_of_beq s r hs;subst hr;cases h;rfl
   .cases h
  .cases h
 |_=>simp[fV.read]at h
theorem fV.amf{x:Arg}{d:Int}(h:(fV.p (.v (.one (.int .i64)))).read x=some d):x=.sv (.one (.int .i64 d)):=by
 cases x with
 |sv x=>
  cases x with
  |one c=>
   cases c with
   |int k n=>
    simp only[fV.read,iq.read,pF.read,gI.read]at h;cases k<;>simp_all
   |_=>simp[fV.read,iq.read,pF.read,gI.read]at h
  |agg l=>simp[fV.read,iq.read,pF.read]at h
 |_=>simp[fV.read,iq.read]at h
theorem aiq{G:jF}{f:FuncId}{e:TypeId}{r:aB}(hpos:0<r.len)(hM:abp P f e r.len)
 {F:jq (LM e r)->Prop×(lT (ahe e r)×kY (LM e r)->Prop)}
 (hF:∀(l:List r.den)(i:Int)(lv:List r.den),(F (l,i,lv,())).1->0<=i/\i<=l.length/\l.length<=1000/\lv.length=1/\(F (l,i,lv,())).2 ((l.take i.toNat++(lv++l.drop i.toNat),()),())):
 jy P G f (pK (LM e r) (ahe e r) F):=by
 intro args p ρ hcon hp;simp only[pK]at hcon;split at hcon
 .next x hx=>
  revert x;show∀x:List r.den×Int×List r.den×Unit,_;rintro⟨l,i,lv,⟨⟩⟩ hx hcon;have hF1:=Option.some.inj hcon;have hp1:(F (l,i,lv,())).1=p:=congrArg Prod.fst hF1;have hρ:=congrArg Prod.snd hF1;simp only at hρ;subst hρ;rw[← hp1]at hp;obtain⟨h0,hi,hn,hv1,hR⟩:=hF l i lv hp;obtain⟨a0,r0,rfl,hx0,h1⟩:=Iz hx;obtain⟨a1,r1,rfl,hx1,h2⟩:=Iz h1;obtain⟨a2,r2,rfl,hx2,h3⟩:=Iz h2;have:=abq h3;subst this;have e0:=fV.ahf hx0;have e2:=fV.ahf hx2;have e1:=fV.amf hx1;subst e0 e1 e2;refine⟨⟨_,hR⟩,?_⟩;intro k S γ vs w hG hrep mV hap hk;have o49:dw [.own e r l,.sv (.one (.int .i64 i)),.own e r lv] 49=some (.arr e r l false):=rfl;have an0:dw [.own e r l,.sv (.one (.int .i64 i)),.own e r lv] 177=some (.arr e r lv false):=rfl
  match hvs:vs.toList,hrep with
  |[v,vi,u],hrep=>
   have ev:v=γ 49:=hrep.1.2.1;have eu:u=γ 177:=hrep.2.2.1.2.1;have evi:vi=.int .i64 i:=hrep.2.1.1;have evs:vs=#[γ 49,.int .i64 i,γ 177]:=by obtain⟨vl⟩:=vs;simp at hvs;rw[hvs,ev,eu,evi]
   subst evs;obtain⟨⟨xs,hxs,_,_,hxr⟩,aq3⟩:=mV 49 _ o49;obtain⟨⟨ys,hys,_,_,hyr⟩,aqU⟩:=mV 177 _ an0;have B1:=Vw (γ 49) (.inr trivial) hxs;have B2:=Vw (γ 177) (.inr trivial) hys;have h1:=ahd hxs.1 hxr hpos;have h2:=ahd hys.1 hyr hpos;have hin:i.toNat<=l.length:=by omega
   have hik:((i.toNat:Nat):Int)=i:=by omega
   have amg:w.ownsRow 0 e r.len (γ 177) 1 ys:=by rw[← hv1];exact hys
   have hrun:=hM w (γ 49) (γ 177) l.length i.toNat xs ys hxs amg (λb hb=>by rw[← B2];exact hap 49 _ 177 _ b o49 an0 (by decide) (by rw[B1];exact hb)) hin hn h1 h2;rw[hik]at hrun;refine hrun.mono ?_;rintro en w' ⟨v',rfl,hown,hgr,hnew⟩;have Bv:=Vw v' (.inr trivial) hown;have hone:v'.oneCell'=true:=by rcases hown.2 with⟨rfl,_⟩|⟨g,cap,cur,rfl,_⟩<;>rfl
   have aoB:look [(k,aG.arr e r (l.take i.toNat++(lv++l.drop i.toNat)) false)] k=some (.arr e r (l.take i.toNat++(lv++l.drop i.toNat)) false):=by simp[look]
   have lookO:∀o x,look [(k,aG.arr e r (l.take i.toNat++(lv++l.drop i.toNat)) false)] o=some x->k=o/\.arr e r (l.take i.toNat++(lv++l.drop i.toNat)) false=x:=by intro o x h;have:=uH _ _ _ h;simp at this;exact⟨this.1.symm,this.2.symm⟩
   have aj1:∀q y,¬kK (iG (LM e r) ()) q=some y:=by
    intro q y h;unfold kK at h
    match hq:q / 64,h with
    |0,h=>simp[iG]at h
    |1,h=>simp[iG]at h
    |2,h=>simp[iG]at h
    |n+3,h=>simp[iG]at h
   refine⟨_,hR,v',λ_=>v',rfl,hgr.os,hgr.tape,hgr.output,hgr.size,λb hb hnb=>?_,?_,?_,?_,?_⟩
   .exact hgr.block b hb λhe=>hnb ⟨49,_,o49,by rw[B1];exact he.symm⟩
   .exact⟨⟨e,r,_,false,aoB⟩,rfl,hone⟩
   .intro o x hx;obtain⟨rfl,rfl⟩:=lookO o x hx;refine⟨⟨xs.take (i.toNat*r.len)++(ys++xs.drop (i.toNat*r.len)),?_,hpos,λ_ _ h=>(by cases h),λq x hx=>?_⟩,λb hb=>?_⟩
    .have hlen:(l.take i.toNat++(lv++l.drop i.toNat)).length=l.length+1:=by simp;omega
     rw[hlen];exact hown
    .have hq:q<=l.length:=by have:=(arz.1 hx).1;simp at this;omega
     rw[aip xs ys r.len l.length i.toNat q hxs.1 (by rw[amg.1,auZ]) hin];have Gf:∀b,(⟨w,w.heap.size,S,γ,dw [.own e r l,.sv (.one (.int .i64 i)),.own e r lv]⟩:V).bZ false b->
      (⟨w',w.heap.size,oV S [.own e r l,.sv (.one (.int .i64 i)),.own e r lv] (iG (LM e r) ()) γ,λ_=>v',look [(k,.arr e r (l.take i.toNat++(lv++l.drop i.toNat)) false)]⟩:V).bZ false b/\w'.heap[b]? =w.heap[b]? :=by
      intro b hb;obtain⟨⟨hb1,hb2,hb3⟩,_⟩:=hb;have hb1:b<w.heap.size:=hb1;have hne:some b≠(γ 49).ownBlock:=λhe=>hb3 49 _ o49 (by rw[B1];exact he.symm);refine⟨⟨⟨asg hb1 hgr.size,λ_=>⟨.inl (hb2 hb1),λq y hq=>?_⟩,λo x hx he=>?_⟩,λh=>(by cases h)⟩,hgr.block b hb1 hne⟩
      .exact absurd hq (aj1 q y)
      .have he:blk v'=some b:=he;rw[Bv]at he;rcases hnew b he with h|h
       .exact hne h.symm
       .omega
     by_cases c1:q<i.toNat
     .rw[if_pos c1];refine bn.mono Gf r _ x (hxr q x ?_);rw[arX (by rw[aro];omega),arG,if_pos c1]at hx;exact hx
     .rw[if_neg c1];have hlt:(l.take i.toNat).length=i.toNat:=by rw[aro];omega
      rw[arO (by omega),hlt]at hx;by_cases c2:q=i.toNat
      .rw[if_pos c2];rw[c2,atf,arX (by omega)]at hx;have:=hyr 0 x hx;rw[atg,as4,asC (by rw[amg.1];omega)]at this;exact bn.mono Gf r _ x this
      .rw[if_neg c2];rw[arO (by omega),hv1,arV,show i.toNat+(q-i.toNat-1)=q-1 by omega]at hx;exact bn.mono Gf r _ x (hxr (q-1) x hx)
    .have he:blk v'=some b:=hb;have he2:=he;rw[Bv]at he2;refine⟨?_,?_,λq y hq=>absurd hq (aj1 q y)⟩
     .rcases hown.2 with⟨hv,_⟩|⟨g,cap,cur,hv,_,hg,_⟩
      .rw[hv]at he;cases he
      .rw[hv]at he;cases he;exact(ar5.1 hg).1
     .rcases hnew b he2 with h|h
      .exact .inr ⟨49,_,o49,by rw[B1];exact h⟩
      .exact .inl h
   .intro o x q y b h1 h2 hne;exact absurd ((lookO o x h1).1.symm.trans (lookO q y h2).1) hne
   .intro o x h;exact absurd h (aj1 o x)
 .cases hcon
end Go.Fw
namespace Go.Fw
open Go
variable {P:Program} {H:Type} {enc:TypeId×Value->H} {w:World}
theorem TA(hl:laidOutB P=true){base:Nat}{sp':Nat->Bool}{W W':World}:∀(ts:List TypeId)(_:ts.all (λt=>P.readableRec t&&decide (t<P.types.size))=true)
 (vs:List Value) (ds:List (DataW H)) (ps:List MemPlace),DataW.TrodAll enc P W base (λ_=>true) true ts vs ds ps->(∀p∈ps,W.sameAt W' p)->(∀p∈ps,sp' p.block=true)->DataW.TrodAll enc P W' base sp' true ts vs ds ps
 |[],_,vs,ds,ps,h,_,_=>by
  cases vs<;>cases ds<;>simp[DataW.TrodAll]at h ⊢;exact h
 |t::ts,ht,vs,ds,ps,h,h1,h2=>by
  rw[asy,ark,ark]at ht;cases vs with
  |nil=>cases ds<;>simp[DataW.TrodAll]at h
  |cons v vs=>
   cases ds with
   |nil=>simp[DataW.TrodAll]at h
   |cons d ds=>
    obtain⟨a,b,g1,g2,rfl⟩:=h;exact⟨a,b,WideElems.Trod_stays hl ht.1.1 (asM ht.1.2) g1 (λp hp=>h1 p (asl _ hp)) (λp hp=>h2 p (asl _ hp)),
     TA hl ts ht.2 vs ds b g2 (λp hp=>h1 p (asH _ hp)) (λp hp=>h2 p (asH _ hp)),rfl⟩
theorem trodAll_length{base:Nat}{sp:Nat->Bool}{hd:Bool}{W:World}:∀(ts:List TypeId)(vs:List Value)(ds:List (DataW H))(ps:List MemPlace),DataW.TrodAll enc P W base sp hd ts vs ds ps->ds.length=ts.length
 |[],vs,ds,ps,h=>by cases vs<;>cases ds<;>simp[DataW.TrodAll]at h ⊢
 |t::ts,vs,ds,ps,h=>by
  cases vs with
  |nil=>cases ds<;>simp[DataW.TrodAll]at h
  |cons v vs=>
   cases ds with
   |nil=>simp[DataW.TrodAll]at h
   |cons d ds=>obtain⟨a,b,g1,g2,rfl⟩:=h;simp[trodAll_length ts vs ds b g2]
theorem amh{fn:Func}{s:ChangeSpec}{apart fresh handsOn again:Bool}{W W':World}{args:Array Value}{ds gs:List (DataW H)}{before:List MemPlace}{tb:TypeId}
 (hvars:s.vars=[]) (hspec:∀l:List (DataW H),l.length=fn.params.toList.length->(s.fn H l).results=[.lit (.bool true)]/\(s.fn H l).args=l/\(s.fn H l).vars=[])
 (hres:fn.resultTypes=#[tb]) (hb:P.underlying tb=some .bool) (hl:laidOutB P=true) (hread:fn.params.toList.all (λt=>P.readableRec t&&decide (t<P.types.size))=true)
 (hW:DataW.Whole enc P fn.params.toList s.vars apart W args.toList ds gs before) (hos:W'.os=W.os) (hout:W'.output=W.output) (hheap:∀b,b<W.heap.size->W'.heap[b]? =W.heap[b]?):
 s.post enc P fn apart fresh handsOn again W args (.bool true) W':=by
 have hlt:=hW.lt;have hW0:=hW;obtain⟨p,q,hA,hV,hpq,hz,hn⟩:=hW;rw[hvars]at hV;have hg:gs=[]/\q=[]:=by
  cases gs with
  |nil=>exact⟨rfl,hV⟩
  |cons g gs=>simp[DataW.TrodVars]at hV
 obtain⟨rfl,rfl⟩:=hg;rw[ash]at hpq;subst hpq;have hlen:=trodAll_length _ _ _ _ hA;obtain⟨r1,r2,r3⟩:=hspec (ds++[]) (by simpa using hlen);rw[ash]at r1 r2 r3;have hsame:∀x∈before,W.sameAt W' x:=λx hx=>ame hheap (hlt x hx);have R:∀(b:Nat)(sp:Nat->Bool)(hd:Bool),DataW.TrodAll enc P W' b sp hd fn.resultTypes.toList ((Value.bool true).resultList fn.resultTypes.size) [.lit (.bool true)] []:=by intro b sp hd;rw[hres];exact⟨[],[],⟨1,by simp[DataW.trod,Value.cells,hb]⟩,rfl,rfl⟩
 have A:∀sp:Nat->Bool,(∀x∈before,sp x.block=true)->DataW.TrodAll enc P W' 0 sp true fn.params.toList args.toList ds before:=λsp hsp=>TA hl _ hread _ _ _ hA hsame hsp;have hold:∀x∈before,(λb=>decide (b<W.heap.size)) x.block=true:=λx hx=>by simpa using hlt x hx
 refine⟨ds,[],before,[],before,[],hW0,?_,?_,?_,amd hos hout hheap _,λ_=>⟨?_,.lit (.bool true)::ds,[],before,⟨before,[],?_,?_,by simp,?_,hn⟩,λx hx _=>hx⟩⟩
 .rw[ash,r1];exact R _ _ _
 .rw[ash,r2];exact A _ hold
 .rw[ash,r3,hvars];rfl
 .intro j t r h1 h2;rw[hres]at h1 h2
  match j with
  |0=>
   simp[Value.resultList]at h1 h2;subst h1 h2;simp[Value.okWide,hb,Go.Cell.okWide,Go.Cell.ok]
  |j+1=>simp at h1
 .exact ChangeShapes.trodAll_append (A _ (λ_ _=>rfl)) (R _ _ _)
 .rw[hvars];rfl
 .intro b off hp;have hbl:=hlt _ hp;have e:W'.frozen? ⟨b,off,none⟩=W.frozen? ⟨b,off,none⟩:=by unfold World.frozen?;simp only;rw[hheap b hbl]
  rw[e];exact hz b off hp
end Go.Fw
namespace Go.Fw
open Go
theorem abr{H:Type}{enc:TypeId×Value->H}{C:Checked}{G:jF}{os:Os}{f:FuncId}{fn:Func}{s:ChangeSpec}{conds:List PathCond}{apart fresh handsOn again:Bool}{tb:TypeId}{sh:List iq}{F:jZ sh->Prop×Out}
 {X:World->Prop} (hX:∀w w':World,w.heap=w'.heap->X w->X w')
 (own:ownKnob C.prog.godebug=none) (started:os.Started) (noInit:C.prog.inits.idxOf? f=none) (hfn:C.prog.funcs[f]? =some fn)
 (witness:∃(w:World)(tape:Tape)(i:Input),w.os=os/\(w.forCall tape i).Shaped C.prog/\i.vars=[]/\Input.okWide C.prog (w.forCall tape i) .any w.heap.size f i/\
   ((s.pre enc C.prog fn conds apart (w.forCall tape i).memory i.args/\X (w.forCall tape i).memory)/\sizedMet enc C.prog fn (OpenSpec.ofChange s) apart (w.forCall tape i).memory i.args)/\({}:Assume).holds C.prog (lone (Frame.enter C.prog f i.args .normal) [] (w.forCall tape i)))
 (hcon:nG C.prog G f (EK sh F)) (hsh:LJ C.prog fn.params.toList=some sh) (hF:∀x,J6 sh x->(F x).1/\(F x).2=adK) (hG:∀w,X w->G.ok w)
 (hvars:s.vars=[]) (hspec:∀l:List (DataW H),l.length=fn.params.toList.length->(s.fn H l).results=[.lit (.bool true)]/\(s.fn H l).args=l/\(s.fn H l).vars=[])
 (hres:fn.resultTypes=#[tb]) (hb:C.prog.underlying tb=some .bool) (hl:laidOutB C.prog=true) (hread:fn.params.toList.all (λt=>C.prog.readableRec t&&decide (t<C.prog.types.size))=true):
 ReturnsInHanded {} C os f .any (λw args=>(s.pre enc C.prog fn conds apart w args/\X w)/\sizedMet enc C.prog fn (OpenSpec.ofChange s) apart w args) (s.post enc C.prog fn apart fresh handsOn again):=by
 refine returnsInHanded_of_change_and (X:=λw _=>X w) (λw w' _ h hx=>hX w w' h hx) own started noInit hfn witness ?_;intro W base args ds gs before hval hW _ _ hx _;have hW0:=hW;obtain⟨p,q,hA,_⟩:=hW;refine(ald hcon hsh hF (hG W hx) hA hval).mono ?_;rintro e W' ⟨rfl,h1,h2,_,h3⟩;exact⟨_,rfl,amh hvars hspec hres hb hl hread hW0 h1 h2 h3⟩
end Go.Fw
