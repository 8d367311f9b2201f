import Derived.Test.YtncbcelpbmlgdaaGreatDoorFwD
import Derived.Test.YtncbcelpbmlgdaaGreatDoorFwB
import Derived.Test.YtncbcelpbmlgdaaGreatDoorFwA
import Derived.ChangeArms
import Derived.WideKeyArgs
import Derived.ChangeSame
import Derived.ChangeOld
import Derived.Handed
import Derived.IntWalk
import Derived.Laws.IdiomCopy
import Derived.ProofKit
namespace Go.Fw
open Go
variable {P:Program} {w0:World} {M:Nat->Prop} {T:Ext} {γ γ':Nat->Value} {st:St} {a:Act} {w w':World} {Θ:jo} {Γ:kJ}
structure HY where
 akQ:List Wl
 c:Shape
 v:Shape
structure Hints where
 own:Nat->Bool
 loops:Nat->Option HY
 cuts:Nat->Option HY
 upd:List Nat
 frz:Nat->List Pre
def yw:Code->Option Nat
 |.region id _ _=>some id
 |.seq x y=>match yw x with|some n=>some n|none=>yw y
 |.cond _ x y=>match yw x with|some n=>some n|none=>yw y
 |.block _ x|.loop x=>yw x
 |_=>none
def cutAt(H:Hints)(y:Code):Option HY:=match yw y with
 |some n=>H.cuts n
 |none=>none
def F7(Θ:jo)(Γ:kJ)(H:Hints):Code->(Exit->St->Prop)->St->Prop
 |.skip,Q,st=>Q .normal st
 |.region id ops false,Q,st=>RV (H.frz id) (runs Θ Γ H.own ops.toList (Q .normal) ops.toList) st
 |.region id ops true,Q,st=>RV (H.frz id) (Oc Θ Γ H.own H.upd ops.toList (Q .normal)) st
 |.seq x y,Q,st=>match cutAt H y with
  |none=>F7 Θ Γ H x (λe s=>match e with|.normal=>F7 Θ Γ H y Q s|e=>Q e s) st
  |some sp=>match sp.c.read (only sp.c sp.v st)with
   |some x0=>∃(J:sp.v.den->Prop),F7 Θ Γ H x (λe s=>match e with
     |.normal=>match settles s sp.akQ with
      |some s1=>match Nat.beq s1.n st.n,sp.c.read (only sp.c sp.v s1),sp.v.read (only sp.c sp.v s1)with
       |true,some x1,some y1=>x1=x0/\J y1
       |_,_,_=>False
      |none=>False
     |e=>Q e s) st/\∀y1,J y1->F7 Θ Γ H y Q (joint st.n sp.c sp.v x0 y1)
   |none=>False
 |.cond c x y,Q,st=>match st.ev c with
  |.sv (.one (.bool b))=>cond b (F7 Θ Γ H x Q st) (F7 Θ Γ H y Q st)
  |_=>False
 |.block id c,Q,st=>F7 Θ Γ H c (λe s=>match e with
  |.exit i=>match Nat.beq i id with|true=>Q .normal s|false=>Q (.exit i) s
  |e=>Q e s) st
 |.exit id,Q,st=>Q (.exit id) st
 |.ret,Q,st=>Q .ret st
 |.loop c,Q,st=>match yw c with
  |some n=>match H.loops n with
   |some sp=>match settles st sp.akQ with
    |some s0=>match sp.c.read (only sp.c sp.v s0),sp.v.read (only sp.c sp.v s0)with
     |some x0,some y0=>∃(I:sp.v.den->Prop)(μ:sp.v.den->Nat),I y0/\∀y,I y->
       F7 Θ Γ H c (λe s=>match e with
        |.normal=>match settles s sp.akQ with
         |some s1=>match Nat.beq s1.n s0.n,sp.c.read (only sp.c sp.v s1),sp.v.read (only sp.c sp.v s1)with
          |true,some x1,some y1=>x1=x0/\I y1/\μ y1<μ y
          |_,_,_=>False
         |none=>False
        |e=>Q e s) (joint s0.n sp.c sp.v x0 y)
     |_,_=>False
    |none=>False
   |none=>False
  |none=>False
 |_,_,_=>False
theorem Wn{G:jV}(hE:sJ P G Θ Γ w0 M)(hm:P.follows .mixedOrders=true)(H:Hints):∀(c:Code)(QA:Exit->St->Prop)(Q:Exit->Act->World->Prop)(st:St)(γ:Nat->Value)(a:Act)(w:World),
 Rel w0 M T γ st a w->F7 Θ Γ H c QA st->(∀e s γ' a' w',QA e s->Rel w0 M T γ' s a' w'->Q e a' w')->c.wp P Q a w:=by
 intro c
 induction c with
 |skip=>intro QA Q st γ a w h ha hQ;exact wp_skip (hQ _ _ _ _ _ ha h)
 |region id ops d=>
  intro QA Q st γ a w h ha hQ;cases d with
  |false=>
   obtain⟨s0,γ0,h0,hk0⟩:=Dj (K:=runs Θ Γ H.own ops.toList (QA .normal) ops.toList) (H.frz id) st γ h ha;exact aho hE h0 hk0 λs γ' a' w' hK hR=>hQ _ _ _ _ _ hK hR
  |true=>
   obtain⟨s0,γ0,h0,hk0⟩:=Dj (K:=Oc Θ Γ H.own H.upd ops.toList (QA .normal)) (H.frz id) st γ h ha;exact al6 hE hm h0 hk0 λs γ' a' w' hK hR=>hQ _ _ _ _ _ hK hR
 |seq x y ihx ihy=>
  intro QA Q st γ a w h ha hQ;rw[F7]at ha;split at ha
  .refine wp_seq (ihx _ _ st γ a w h ha ?_);intro e s γ' a' w' hq hR;cases e<;>first|exact ihy _ _ s γ' a' w' hR hq hQ|exact hQ _ _ _ _ _ hq hR
  .next sp hsp=>
   split at ha
   .next x0 hx=>
    obtain⟨J,h1,h2⟩:=ha;refine wp_seq (ihx _ _ st γ a w h h1 ?_);intro e s γ' a' w' hq hR;cases e with
    |normal=>
     simp only at hq;split at hq
     .next s1 hs1=>
      split at hq
      .next x1 y1 hsn hx1 hy1=>obtain⟨rfl,hJ⟩:=hq;obtain⟨γ1,hR1⟩:=Rel.settles _ hR hs1;have hR2:=hR1.joint hx1 hy1;rw[auR hsn]at hR2;exact ihy _ _ _ γ1 a' w' hR2 (h2 _ hJ) hQ
      .exact hq.elim
     .exact hq.elim
    |_=>exact hQ _ _ _ _ _ hq hR
   .exact ha.elim
 |cond c x y ihx ihy=>
  intro QA Q st γ a w h ha hQ;rw[F7]at ha;split at ha
  .next b hb=>
   have hv:a.eval c=.bool b:=by have:=iY h c;rw[hb]at this;exact this
   refine wp_cond_split hv (λe=>?_) (λe=>?_)
   .subst e;exact ihx _ _ st γ a w h ha hQ
   .subst e;exact ihy _ _ st γ a w h ha hQ
  .exact ha.elim
 |block id c ih=>
  intro QA Q st γ a w h ha hQ;refine wp_block (ih _ _ st γ a w h ha ?_);intro e s γ' a' w' hq hR;cases e with
  |exit i=>
   simp only[Exit.inBlock];cases hb:Nat.beq i id with
   |true=>
    simp only[hb]at hq;rw[if_pos (auR hb)];exact hQ _ _ _ _ _ hq hR
   |false=>
    simp only[hb]at hq;rw[if_neg (by rintro rfl;simp at hb)];exact hQ _ _ _ _ _ hq hR
  |_=>exact hQ _ _ _ _ _ hq hR
 |loop c ih=>
  intro QA Q st γ a w h ha hQ;rw[F7]at ha;split at ha
  .split at ha
   .next sp hsp=>
    split at ha
    .next s0 hs0=>
     split at ha
     .next x0 y0 hx hy=>
      obtain⟨I,μ,h0,hI⟩:=ha;obtain⟨γ0,hR0⟩:=Rel.settles _ h hs0
      let J:sp.v.den->Act->World->Prop:=λy a' w'=>∃γ',Rel w0 M T γ' (joint s0.n sp.c sp.v x0 y) a' w'
      have key:∀(n:Nat)(y:sp.v.den),μ y=n->I y->∀a' w',J y a' w'->∀(b:Frame)(k:List Item)(cs:List Frame),
       ∃e a'' w'',Q e a'' w''/\Arrives P (lone (b.at a' (.code c:: .inLoop c::k)) cs w') b k cs e a'' w'':=by
       intro n
       induction n using Nat.strongRecOn with
       |_ n ihn=>
        intro y hμ hy' a' w' ⟨γ',hR⟩ b k cs;have hbody:=ih _ (Exit.then (λa2 w2=>∃y2,I y2/\μ y2<μ y/\J y2 a2 w2) Q) _ γ' a' w' hR (hI y hy') ?_
        .obtain⟨e,a1,w1,hq,harr⟩:=hbody b (.inLoop c::k) cs;cases e with
         |normal=>
          obtain⟨y2,hI2,hlt,hJ2⟩:=hq;obtain⟨e2,a2,w2,hq2,aq0⟩:=ihn (μ y2) (hμ▸hlt) y2 rfl hI2 a1 w1 hJ2 b k cs;exact⟨e2,a2,w2,hq2,.of_steps (Steps.trans harr (.one step_inLoop)) aq0⟩
         |exit id=>exact⟨_,a1,w1,hq,.pass (x:=.inLoop c) rfl (λ_ _=>.inl (by simp)) harr⟩
         |goto l=>exact⟨_,a1,w1,hq,.pass (x:=.inLoop c) rfl (λ_ _=>.inl (by simp)) harr⟩
         |ret=>exact⟨_,a1,w1,hq,.pass (x:=.inLoop c) rfl (λ_ _=>.inl (by simp)) harr⟩
         |panic ch=>exact⟨_,a1,w1,hq,.pass (x:=.inLoop c) rfl (λ_ _=>.inl (by simp)) harr⟩
         |outgrown=>exact⟨_,a1,w1,hq,.pass (x:=.inLoop c) rfl (λ_ _=>.inl (by simp)) harr⟩
        .intro e s γ2 a2 w2 hq hR2;cases e with
         |normal=>
          simp only at hq;split at hq
          .next s1 hs1=>
           split at hq
           .next x1 y1 hsn hx1 hy1=>obtain⟨rfl,hI1,hlt⟩:=hq;obtain⟨γ3,jW⟩:=Rel.settles _ hR2 hs1;have hJ:=jW.joint hx1 hy1;rw[auR hsn]at hJ;exact⟨y1,hI1,hlt,_,hJ⟩
           .exact hq.elim
          .exact hq.elim
         |_=>exact hQ _ _ _ _ _ hq hR2
      intro b k cs;obtain⟨e,a',w',hq,harr⟩:=key _ y0 rfl h0 a w ⟨_,hR0.joint hx hy⟩ b k cs;exact⟨e,a',w',hq,.of_steps (.one step_loop) harr⟩
     .exact ha.elim
    .exact ha.elim
   .exact ha.elim
  .exact ha.elim
 |rangeFunc f ps x y ihx ihy=>intro QA Q st γ a w h ha hQ;exact ha.elim
 |exit id=>intro QA Q st γ a w h ha hQ;exact wp_exit (hQ _ _ _ _ _ ha h)
 |scope c ih=>intro QA Q st γ a w h ha hQ;exact ha.elim
 |label l=>intro QA Q st γ a w h ha hQ;exact ha.elim
 |goto l=>intro QA Q st γ a w h ha hQ;exact ha.elim
 |ret=>intro QA Q st γ a w h ha hQ;exact wp_ret (hQ _ _ _ _ _ ha h)
 |refuse s=>intro QA Q st γ a w h ha hQ;exact ha.elim
def Arg.av:Arg->AV
 |.sv v=>.sv v
 |.kp cs=>.eX cs 0
 |.fn f caps=>.fn f caps
 |.own _ _ _|.ptr _=>.undef
def entry(n:Nat)(args:List Arg):St:=
 {n:=n,tmps:=λt=>match args[t]? with|some v=>v.av|none=>.undef,ah:=λ_=>none}
def Oe(st:St)(o:Nat):Bool:=match st.ah o with|some (.arr _ _ _ _)=>true|_=>false
def abA(Θ:jo)(st:St):ResultVar->Option SV
 |.tmp t=>match st.tmps t with|.sv v=>some v|_=>none
 |.cell t ty=>match Θ ty,st.tmps t with
  |some ti,.bV o off=>match st.ah o with
   |some (.var cs)=>lC ti cs off
   |_=>none
  |_,_=>none
def Mc(Θ:jo)(st:St):List ResultVar->Option (List SV)
 |[]=>some []
 |r::rs=>match abA Θ st r,Mc Θ st rs with
  |some v,some vs=>some (v::vs)
  |_,_=>none
def outOf:SV->Bool×List fF
 |.one c=>(false,[.plain c])
 |.agg cs=>(true,cs.map .plain)
def outs:List SV->List (Bool×List fF)
 |[]=>[]
 |v::vs=>outOf (v.kill λ_=>true)::outs vs
def fin(Θ:jo)(rv:List ResultVar)(st:St):Option Out:=
 match Mc Θ (st.freeze (Oe st)) rv with
 |some vs=>some ⟨outs vs,none⟩
 |none=>none
theorem Og:∀(k:Nat)(cs:List Cell),jQ k (cs.map .plain)=(cs,[])
 |_,[]=>rfl
 |k,c::cs=>by simp only[au8,jQ,Og (k+1) cs,fF.take,avi]
theorem ai7(k:Nat)(v:SV):wO k (outOf v)=(v,[]):=by
 cases v with
 |one c=>rfl
 |agg cs=>simp only[wO,outOf,Og]
theorem apd(v:Value)(t:TypeId)(b off:Nat)(hv:v=.pointer (some ⟨b,off,none⟩)):Instr.loadAt t v=(do loadVar t (← asAddr v)):=by subst hv;rfl
def IW(tmps:Array Value):ResultVar->Sem Value
 |.tmp t=>pure (tmps.getD t undef)
 |.cell x t=>do loadVar t (← asAddr (tmps.getD x undef))
theorem RY(fn:Func)(tmps:Array Value):results fn tmps=(do let vs ← fn.results.mapM (IW tmps);pure (if h:vs.size=1 then vs[0]else .tuple vs)):=by unfold results;congr 1
theorem ahq(hΘ:∀t ti,Θ t=some ti->lF P t ti)(h:Rel w0 M T γ st a w){r:ResultVar}{v:SV}(hf:abA Θ st r=some v):
 ∃u,(IW a.tmps r).run P w=.ok u w/\dL (aj w0 T γ st w) v u:=by
 cases r with
 |tmp t=>
  simp only[abA]at hf;split at hf
  .next e=>cases hf;have:=h.tmps t;rw[e]at this;exact⟨_,rfl,this⟩
  .cases hf
 |cell x t=>
  simp only[abA]at hf;split at hf
  .next ti o off ht hx=>
   split at hf
   .next cs ho=>have hv:=h.tmps x;rw[hx]at hv;obtain⟨b,cs',_,_,hv'⟩:=hv;obtain⟨u,hu,hr⟩:=NZ hΘ h ht (x:=.tmp x) (.inl ⟨o,off,cs,hx,ho,hf⟩);refine⟨u,?_,hr⟩;rw[IW,← apd _ t b off hv'];exact hu
   .cases hf
  .cases hf
theorem Md(hΘ:∀t ti,Θ t=some ti->lF P t ti)(h:Rel w0 M T γ st a w):∀(rs:List ResultVar)(vs:List SV),Mc Θ st rs=some vs->
 ∃us,(rs.mapM (IW a.tmps)).run P w=.ok us w/\
  dM (aj w0 T γ st w) vs us
 |[],vs,hf=>by cases hf;exact⟨[],rfl,trivial⟩
 |r::rs,vs,hf=>by
  rw[Mc]at hf;split at hf
  .next v vs' h1 h2=>cases hf;obtain⟨u,hu,hr⟩:=ahq hΘ h h1;obtain⟨us,hus,hrs⟩:=Md hΘ h rs vs' h2;refine⟨u::us,?_,hr,hrs⟩;rw[ax6,avd,hu];simp only[avG,avd,hus,avQ]
  .cases hf
theorem dM.length{X:V}:∀(cs:List SV)(vs:List Value),dM X cs vs->vs.length=cs.length
 |[],[],_=>rfl
 |_::cs,_::vs,⟨_,h⟩=>by simp[dM.length cs vs h]
 |[],_::_,H|_::_,[],H=>by cases H
theorem dM.get{X:V}:∀(cs:List SV)(vs:List Value)(i:Nat)(c:SV),dM X cs vs->cs[i]? =some c->∃v,vs[i]? =some v/\dL X c v
 |[],_,_,_,_,h=>by simp at h
 |c::cs,v::vs,0,d,⟨h1,_⟩,h=>by simp at h;subst h;exact⟨v,rfl,h1⟩
 |c::cs,v::vs,i+1,d,⟨_,h2⟩,h=>by
  obtain⟨u,hu,hr⟩:=dM.get cs vs i d h2 (by simpa using h);exact⟨u,by simpa using hu,hr⟩
 |_::_,[],_,_,H,_=>by cases H
theorem oH.length{X:V}:∀(cs:List Arg)(vs:List Value),oH X cs vs->vs.length=cs.length
 |[],[],_=>rfl
 |_::cs,_::vs,⟨_,h⟩=>by simp[oH.length cs vs h]
 |[],_::_,H|_::_,[],H=>by cases H
theorem oH.get{X:V}:∀(cs:List Arg)(vs:List Value)(i:Nat)(c:Arg),oH X cs vs->cs[i]? =some c->∃v,vs[i]? =some v/\oG X c v
 |[],_,_,_,_,h=>by simp at h
 |c::cs,v::vs,0,d,⟨h1,_⟩,h=>by simp at h;subst h;exact⟨v,rfl,h1⟩
 |c::cs,v::vs,i+1,d,⟨_,h2⟩,h=>by
  obtain⟨u,hu,hr⟩:=oH.get cs vs i d h2 (by simpa using h);exact⟨u,by simpa using hu,hr⟩
 |_::_,[],_,_,H,_=>by cases H
theorem oG.av{X:V}:∀(c:Arg)(v:Value),oG X c v->aQ X c.av v
 |.sv _,_,h|.kp _,_,h|.fn _ _,_,h=>h
 |.own _ _ _,_,h|.ptr _,_,h=>h.elim
theorem al8{args:List Arg}{vs:Array Value}{S:Nat->Prop}(n:Nat)(hn:args.length<=n)
 (h:oH ⟨w,w.heap.size,S,λ_=>undef,λ_=>none⟩ args vs.toList):
 Rel w (λ_=>False) ⟨S,λ_=>none,λ_ _ h=>by cases h⟩ (λ_=>undef) (entry n args) {tmps:=vs++Array.replicate (n-vs.size) undef,defers:=[]} w:=by
 have hl:vs.size=args.length:=by simpa using oH.length _ _ h
 refine⟨λ_ h=>h.elim,rfl,?_,rfl,rfl,rfl,auT _,λ_ _ _=>rfl,λt=>?_,(λo x hx=>by cases hx),(λo x b hx=>by cases hx),(λo x p y b hx=>by cases hx),(λo v cs hN=>by cases hN)⟩
 .simp[entry];omega
 .simp only[entry];cases ha:args[t]? with
  |none=>trivial
  |some v=>
   obtain⟨u,hu,hr⟩:=oH.get _ _ t v h ha;have:(vs++Array.replicate (n-vs.size) undef).getD t undef=u:=by
    have hlt:t<args.length:=by
     rcases avb t args.length with h'|h'
     .exact h'
     .rw[avP h']at ha;cases ha
    have hlt':t<vs.size:=by omega
    rw[awQ,awU hlt'];have:vs[t]? =some u:=by simpa using hu
    rw[this];rfl
   rw[this];exact oG.av v u hr
end Go.Fw
namespace Go.Fw
def codeOf(fn:Func):Code:=match fn.body with|some c=>c|none=>.skip
def abB:List (Nat×TI)->jo
 |[],_=>none
 |(t,x)::r,i=>match Nat.beq i t with|true=>some x|false=>abB r i
def Iq:List (Nat×Jv)->kJ
 |[],_=>none
 |(t,x)::r,i=>match Nat.beq i t with|true=>some x|false=>Iq r i
def akR:List (Nat×HY)->Nat->Option HY
 |[],_=>none
 |(t,x)::r,i=>match Nat.beq i t with|true=>some x|false=>akR r i
def aoL:List (Nat×List Pre)->Nat->List Pre
 |[],_=>[]
 |(n,z)::r,i=>match Nat.beq i n with|true=>z|false=>aoL r i
def hints(own:List Nat)(l c:List (Nat×HY))(u:List Nat)(z:List (Nat×List Pre)):Hints:=⟨aK own,akR l,akR c,u,aoL z⟩
end Go.Fw
namespace Go.Fw
open Go
variable {P:Program} {Θ:jo} {Γ:kJ}
inductive oP where
 |one (c:gY)
 |agg (l:List gY)
@[reducible] def oP.den:oP->Type
  |.one c=>c.den
  |.agg l=>lN l
def oP.val:(s:oP)->s.den->SV
 |.one c,x=>.one (c.cell x)
 |.agg l,x=>.agg (iD l x)
def oP.read:(s:oP)->SV->Option s.den
 |.one c,.one x=>c.read x
 |.agg l,.agg xs=>jR l xs
 |_,_=>none
theorem oP.weak{X:V}(s:oP)(x:SV)(d:s.den)(v:Value)(hr:s.read x=some d)(hv:dL X x v):dL X (s.val d) v:=by
 unfold oP.read at hr;split at hr
 .exact gY.weak _ _ _ _ hr hv
 .obtain⟨vs,e,h⟩:=hv;exact⟨vs,e,D6 _ _ _ _ hr h⟩
 .cases hr
@[reducible] def mG:List oP->Type
  |[]=>Unit
  |s::r=>s.den×mG r
def rP:(l:List oP)->mG l->List SV
 |[],_=>[]
 |s::r,x=>s.val x.1::rP r x.2
def Qg:(l:List oP)->List SV->Option (mG l)
 |[],[]=>some ()
 |s::r,x::xs=>match s.read x,Qg r xs with
  |some a,some b=>some (a,b)
  |_,_=>none
 |_,_=>none
theorem al9{X:V}:∀(l:List oP)(xs:List SV)(d:mG l)(vs:List Value),Qg l xs=some d->dM X xs vs->dM X (rP l d) vs
 |[],[],_,_,_,hv=>hv
 |s::r,x::xs,d,vs,hr,hv=>by
  rw[Qg]at hr;split at hr
  .next a b h1 h2=>
   cases hr;cases vs with
   |nil=>cases hv
   |cons v vs=>exact⟨oP.weak s x a v h1 hv.1,al9 r xs b vs h2 hv.2⟩
  .cases hr
 |[],_::_,_,_,hr,_=>by simp[Qg]at hr
 |_::_,[],_,_,hr,_=>by simp[Qg]at hr
mutual
def CT.sK:(c:CT)->c.den->Prop
 |.int k,(n:Int)=>k.min<=n/\n<=k.max
 |.bool,_=>True
 |.str,(s:Bytes)=>s.length<=maxLen
 |.sl _ r,(l:List r.den)=>l.length<=maxLen/\∀x∈l,r.sK x
def au.sK:(r:au)->r.den->Prop
 |.nil,_=>True
 |.cons c r,x=>c.sK x.1/\r.sK x.2
end
mutual
theorem dh.sK{h:Array Obj}{S:Nat->Prop}:∀(c:CT)(v:Value)(x:c.den),dh h S c v x->c.sK x
 |.int k,v,(n:Int),H=>by rw[dh]at H;rw[CT.sK];exact H.2
 |.bool,v,(b:Bool),H=>by rw[CT.sK];trivial
 |.str,v,(s:Bytes),H=>by rw[dh]at H;rw[CT.sK];exact H.2
 |.sl e r,v,(l:List r.den),H=>by
  rw[dh]at H;rw[CT.sK];refine⟨H.1,λx hx=>?_⟩;obtain⟨i,hi,rfl⟩:=awF.1 hx;rcases H.2 with⟨hnil,_⟩|⟨b,off,cap,cs,t,fz,_,_,_,_,hr⟩
  .subst hnil;simp at hi
  .exact aI.sK r _ _ (hr i _ (auX hi))
theorem aI.sK{h:Array Obj}{S:Nat->Prop}:∀(r:au)(vs:List Value)(x:r.den),aI h S r vs x->r.sK x
 |.nil,vs,_,H=>by rw[au.sK];trivial
 |.cons c r,vs,(x,y),H=>by rw[aI]at H;obtain⟨v,vs',_,h1,h2⟩:=H;rw[au.sK];exact⟨dh.sK c v x h1,aI.sK r vs' y h2⟩
end
def gY.sK:(c:gY)->c.den->Prop
 |.int k,(n:Int)=>k.min<=n/\n<=k.max
 |.str,(s:Bytes)=>s.length<=maxLen
 |.sl _ r _,(l:List r.den)=>l.length<=maxLen/\∀x∈l,r.sK x
 |_,_=>True
def X8:(l:List gY)->lN l->Prop
 |[],_=>True
 |c::r,x=>c.sK x.1/\X8 r x.2
def oP.sK:(s:oP)->s.den->Prop
 |.one c,x=>c.sK x
 |.agg l,x=>X8 l x
theorem gY.X9{X:V}(c:gY)(x:c.den)(v:Value)(h:aO X (c.cell x) v):c.sK x:=by
 cases c with
 |int k=>exact h.2
 |str=>exact h.2
 |sl e r fr=>
  have h':dh X.w.heap (X.cO fr) (.sl e r) v x:=h;have:=dh.sK (.sl e r) v x h';rw[CT.sK]at this;exact this
 |_=>trivial
theorem IX{X:V}:∀(l:List gY)(x:lN l)(vs:List Value),ai X (iD l x) vs->X8 l x
 |[],_,_,_=>trivial
 |c::r,x,v::vs,h=>⟨gY.X9 c x.1 v h.1,IX r x.2 vs h.2⟩
 |_::_,_,[],h=>by cases h
inductive iH where
 |v (s:oP)
 |kp (l:List gY)
 |fn (f:FuncId) (l:List (List gY))
@[reducible] def iH.den:iH->Type
  |.v s=>s.den
  |.kp l=>lN l
  |.fn _ l=>Bj l
def iH.val:(s:iH)->s.den->Arg
 |.v s,x=>.sv (s.val x)
 |.kp l,x=>.kp (iD l x)
 |.fn f l,x=>.fn f (IU l x)
def iH.read:(s:iH)->Arg->Option s.den
 |.v s,.sv x=>s.read x
 |.kp l,.kp xs=>jR l xs
 |.fn f l,.fn g xs=>match Nat.beq f g with|true=>EJ l xs|false=>none
 |_,_=>none
theorem iH.weak{X:V}(s:iH)(x:Arg)(d:s.den)(v:Value)(hr:s.read x=some d)(hv:oG X x v):oG X (s.val d) v:=by
 unfold iH.read at hr;split at hr
 .exact oP.weak _ _ _ _ hr hv
 .obtain⟨b,e,hk⟩:=hv;exact⟨b,e,afa hr hk⟩
 .split at hr
  .next hb=>obtain⟨us,e,hk⟩:=hv;rw[iH.val,auR hb];exact⟨us,e,Wi _ _ _ _ hr hk⟩
  .cases hr
 .cases hr
@[reducible] def jr:List iH->Type
  |[]=>Unit
  |s::r=>s.den×jr r
def vw:(l:List iH)->jr l->List Arg
 |[],_=>[]
 |s::r,x=>s.val x.1::vw r x.2
def F8:(l:List iH)->List Arg->Option (jr l)
 |[],[]=>some ()
 |s::r,x::xs=>match s.read x,F8 r xs with
  |some a,some b=>some (a,b)
  |_,_=>none
 |_,_=>none
theorem D8{X:V}:∀(l:List iH)(xs:List Arg)(d:jr l)(vs:List Value),F8 l xs=some d->oH X xs vs->oH X (vw l d) vs
 |[],[],_,_,_,hv=>hv
 |s::r,x::xs,d,vs,hr,hv=>by
  rw[F8]at hr;split at hr
  .next a b h1 h2=>
   cases hr;cases vs with
   |nil=>cases hv
   |cons v vs=>exact⟨iH.weak s x a v h1 hv.1,D8 r xs b vs h2 hv.2⟩
  .cases hr
 |[],_::_,_,_,hr,_=>by simp[F8]at hr
 |_::_,[],_,_,hr,_=>by simp[F8]at hr
theorem UN:∀(l:List iH)(d:jr l),(vw l d).length=l.length
 |[],_=>rfl
 |_::r,d=>by simp[vw,UN r d.2]
def adJ:(l:List (List gY))->Bj l->Prop
 |[],_=>True
 |c::r,x=>X8 c x.1/\adJ r x.2
def iH.sK:(s:iH)->s.den->Prop
 |.v s,x=>s.sK x
 |.kp l,x=>X8 l x
 |.fn _ l,x=>adJ l x
def Kt:(l:List iH)->jr l->Prop
 |[],_=>True
 |s::r,x=>s.sK x.1/\Kt r x.2
theorem Zb{X:V}:∀(l:List (List gY))(x:Bj l)(us:List Value),eU X (IU l x) us->adJ l x
 |[],_,_,_=>trivial
 |c::r,x,u::us,h=>by
  obtain⟨⟨b,hu,arr,t,fz,hf,hh,hc⟩,h2⟩:=h;exact⟨IX c x.1 _ hc,Zb r x.2 us h2⟩
 |_::_,_,[],h=>by cases h
theorem CO{X:V}:∀(l:List iH)(x:jr l)(vs:List Value),oH X (vw l x) vs->Kt l x
 |[],_,_,_=>trivial
 |.v (.one c)::r,x,v::vs,h=>⟨gY.X9 c x.1 v h.1,CO r x.2 vs h.2⟩
 |.v (.agg l)::r,x,v::vs,h=>by
  obtain⟨ws,hv,hc⟩:=h.1;exact⟨IX l x.1 _ hc,CO r x.2 vs h.2⟩
 |.kp l::r,x,v::vs,h=>by
  obtain⟨b,hu,arr,t,fz,hf,hh,hc⟩:=h.1;exact⟨IX l x.1 _ hc,CO r x.2 vs h.2⟩
 |.fn f l::r,x,v::vs,h=>by
  obtain⟨us,hv,hk⟩:=h.1;exact⟨Zb l x.1 _ hk,CO r x.2 vs h.2⟩
 |_::_,_,[],h=>by cases h
def xK(sh:List iH)(F:jr sh->Prop×Out):EW:=λargs=>
 match F8 sh args with
 |some x=>some (F x)
 |none=>none
def Ak:List SV->List (Bool×List fF)
 |[]=>[]
 |v::vs=>outOf v::Ak vs
theorem Qh:∀(k:Nat)(vs:List SV),iL k (Ak vs)=(vs,[])
 |_,[]=>rfl
 |k,v::vs=>by simp only[Ak,iL,ai7,Qh,avi]
def abC(Θ:jo)(rv:List ResultVar)(bI:List oP)(K:mG bI->Prop)(e:Exit)(st:St):Prop:=
 match e with
 |.normal|.ret=>match Mc Θ (st.freeze (Oe st)) rv with
  |some vs=>match Qg bI (vs.map (SV.kill λ_=>true))with
   |some d=>K d
   |none=>False
  |none=>False
 |_=>False
theorem ape{G:jV}(hE:EnvB P G Θ Γ)(hm:P.follows .mixedOrders=true){f:FuncId}{fn:Func}{c:Code}(hf:P.funcs[f]? =some fn)(hb:fn.body=some c)(H:Hints){con:EW}{bI:List oP}
 (hwalk:∀args p out,con args=some (p,out)->p->Nat.ble args.length fn.ntmps=true/\∃d:mG bI,out=⟨Ak (rP bI d),none⟩/\F7 Θ Γ H c (abC Θ fn.results.toList bI λy=>y=d) (entry fn.ntmps args)):fG P G f con:=by
 intro args p out k S vs w hcon hp hG hrep;obtain⟨hn,d,hout,hw⟩:=hwalk args p out hcon hp;subst hout;have hn':args.length<=fn.ntmps:=by simpa[axc]using hn
 refine calls_of_wp hf hb (Wn ⟨hE,hG,λb hb=>hb.elim⟩ hm H c _ _ _ _ _ _ (al8 (S:=S) fn.ntmps hn' hrep) hw ?_);have hret:∀s γ' a' w',abC Θ fn.results.toList bI (λy=>y=d) .ret s->Rel w (λ_=>False) ⟨S,λ_=>none,λ_ _ h=>by cases h⟩ γ' s a' w'->bodyPost P fn (λe w'=>∃v vals,e=.returned v/\w'.os=w.os/\w'.tape=w.tape/\w'.output=w.output/\w.heap.size<=w'.heap.size/\
  (∀b,b<w.heap.size->w'.heap[b]? =w.heap[b]?)/\
  aQ ⟨w',w.heap.size,S,vals,look (Out.take k ⟨Ak (rP bI d),none⟩).2⟩ (Out.take k ⟨Ak (rP bI d),none⟩).1 v/\
  (∀o x,look (Out.take k ⟨Ak (rP bI d),none⟩).2 o=some x->bC ⟨w',w.heap.size,S,vals,look (Out.take k ⟨Ak (rP bI d),none⟩).2⟩ o x/\∀b,blk (vals o)=some b->w.heap.size<=b/\b<w'.heap.size)/\
  (∀o x q y b,look (Out.take k ⟨Ak (rP bI d),none⟩).2 o=some x->look (Out.take k ⟨Ak (rP bI d),none⟩).2 q=some y->o≠q->blk (vals o)=some b->blk (vals q)≠some b)) .ret a' w':=by
  intro s γ' a' w' he hR;refine⟨hR.defers,?_⟩;simp only[abC]at he;split at he
  .next svs hvs=>
   split at he
   .next y hy=>
    subst he;have hRf:=hR.freeze (Oe s);obtain⟨us,hus,hrs⟩:=Md hE.types hRf _ _ hvs;have hk0:=dM.kill (λ_=>true) hRf svs us hrs;have hk:=al9 bI _ y us hy hk0;have htake:Out.take k ⟨Ak (rP bI y),none⟩=(match rP bI y with|[v]=>.sv v|l=>.mJ l,[]):=by unfold Out.take;simp only[Qh];rcases rP bI y with _|⟨v,_|⟨v2,r⟩⟩<;>rfl
    have hmap:(fn.results.mapM (IW a'.tmps)).run P w'=.ok us.toArray w':=by rw[axl,Sem.run_map,hus];rfl
    refine⟨if h:us.toArray.size=1 then us.toArray[0]else .tuple us.toArray,?_,_,γ',rfl,hR.os,hR.tape,hR.output,hR.grow,λb hb=>hR.kept b hb (λh=>h),?_,?_,?_⟩
    .rw[RY,avd,hmap];simp only[avG,avQ]
    .rw[htake];have hl:=dM.length _ _ hk
     match hm:rP bI y,us,hk,hl with
     |[v],[u],hk,_=>exact hk.1
     |[],[],hk,_=>exact⟨_,by simp,hk⟩
     |v::v2::r,u::u2::us,hk,hl=>exact⟨_,by simp,hk⟩
     |[],_::_,hk,h4|_::_,[],hk,h4|[_],_::_::_,hk,h4|_::_::_,[_],hk,h4=>simp at h4
    .intro o x hx;rw[htake]at hx;cases hx
    .intro o x q y b hx;rw[htake]at hx;cases hx
   .exact he.elim
  .exact he.elim
 intro e s γ' a' w' he hR;cases e with
 |normal=>exact hret s γ' a' w' he hR
 |ret=>exact hret s γ' a' w' he hR
 |_=>exact he.elim
def iw(sh:List iH)(bI:List oP)(F:jr sh->Prop×mG bI):EW:=xK sh λx=>((F x).1,⟨Ak (rP bI (F x).2),none⟩)
theorem adK{G:jV}(hE:EnvB P G Θ Γ)(hm:P.follows .mixedOrders=true){f:FuncId}{fn:Func}{c:Code}(hf:P.funcs[f]? =some fn)(hb:fn.body=some c)(H:Hints)
 {sh:List iH} {bI:List oP} {F:jr sh->Prop×mG bI} (hn:Nat.ble sh.length fn.ntmps=true)
 (hwalk:∀x,Kt sh x->(F x).1->F7 Θ Γ H c (abC Θ fn.results.toList bI λy=>y=(F x).2) (entry fn.ntmps (vw sh x))):fG P G f (iw sh bI F):=by
 have base:∀x,Kt sh x->fG P G f (λargs=>@ite _ (args=vw sh x) (Classical.propDecidable _) (some ((F x).1,⟨Ak (rP bI (F x).2),none⟩)) none):=by
  intro x hin;refine ape (bI:=bI) hE hm hf hb H ?_;intro args p out hcon hp;split at hcon
  .next e=>
   have hF:((F x).1,(⟨Ak (rP bI (F x).2),none⟩:Out))=(p,out):=by simpa using hcon
   have h1:(F x).1=p:=congrArg Prod.fst hF;have h2:(⟨Ak (rP bI (F x).2),none⟩:Out)=out:=congrArg Prod.snd hF;have:=hwalk x hin (by rw[h1];exact hp);rw[e];exact⟨by rw[UN];exact hn,(F x).2,h2.symm,this⟩
  .cases hcon
 intro args p out k S vs w hcon hp hG hrep;unfold iw xK at hcon;split at hcon
 .next x hx=>have hv:=D8 sh args x vs.toList hx hrep;exact base x (CO sh x _ hv) (vw sh x) p out k S vs w (by simp only[if_true];exact hcon) hp hG hv
 .cases hcon
inductive RC where
 |c (s:gY)
 |own (e:TypeId) (r:au) (fr:Bool)
@[reducible] def RC.den:RC->Type
  |.c s=>s.den
  |.own _ r _=>List r.den
@[reducible] def abD:List RC->Type
  |[]=>Unit
  |c::r=>c.den×abD r
def RC.akS:(c:RC)->c.den->fF
 |.c s,x=>.plain (s.cell x)
 |.own e r fr,l=>.own e r l fr
def adL:(l:List RC)->abD l->List fF
 |[],_=>[]
 |c::r,x=>c.akS x.1::adL r x.2
inductive qc where
 |one (c:RC)
 |agg (l:List RC)
@[reducible] def qc.den:qc->Type
  |.one c=>c.den
  |.agg l=>abD l
@[reducible] def lJ:List qc->Type
  |[]=>Unit
  |s::r=>s.den×lJ r
def qc.out:(s:qc)->s.den->Bool×List fF
 |.one c,x=>(false,[c.akS x])
 |.agg l,x=>(true,adL l x)
def iQ:(l:List qc)->lJ l->List (Bool×List fF)
 |[],_=>[]
 |s::r,x=>s.out x.1::iQ r x.2
def RC.name:RC->Cell->Option Nat
 |.own _ _ _,.ref o=>some o
 |_,_=>none
def adM:List RC->List Cell->List (Option Nat)
 |c::r,x::xs=>c.name x::adM r xs
 |_,_=>[]
def qc.names:qc->SV->List (Option Nat)
 |.one c,.one x=>[c.name x]
 |.agg l,.agg xs=>adM l xs
 |_,_=>[]
def Bl:List qc->List SV->List (Option Nat)
 |s::r,x::xs=>s.names x++Bl r xs
 |_,_=>[]
def RC.read(st:St):(c:RC)->Cell->Option c.den
 |.c s,x=>match x.refs with|[]=>s.read x|_=>none
 |.own e r fr,.ref o=>match st.ah o with
  |some (.arr f s l g)=>match Nat.beq e f&&L9 fr g with
   |true=>if h:s.beq r=true then some (uO h l)else none
   |false=>none
  |_=>none
 |.own _ r _,.nil=>match Nat.ble 1 r.len with|true=>some []|false=>none
 |_,_=>none
def Qi(st:St):(l:List RC)->List Cell->Option (abD l)
 |[],[]=>some ()
 |c::r,x::xs=>match c.read st x,Qi st r xs with
  |some a,some b=>some (a,b)
  |_,_=>none
 |_,_=>none
def qc.read(st:St):(s:qc)->SV->Option s.den
 |.one c,.one x=>c.read st x
 |.agg l,.agg xs=>Qi st l xs
 |_,_=>none
def CP(st:St):(l:List qc)->List SV->Option (lJ l)
 |[],[]=>some ()
 |s::r,x::xs=>match s.read st x,CP st r xs with
  |some a,some b=>some (a,b)
  |_,_=>none
 |_,_=>none
inductive iJ where
 |p (s:iH)
 |own (e:TypeId) (r:au)
 |ptr (l:List gY)
@[reducible] def iJ.den:iJ->Type
  |.p s=>s.den
  |.own _ r=>List r.den
  |.ptr l=>lN l
def iJ.mode:iJ->Mode
 |.p _=>.val
 |.own _ _=>.own
 |.ptr _=>.ptr
def iJ.val:(s:iJ)->s.den->Arg
 |.p s,x=>s.val x
 |.own e r,l=>.own e r l
 |.ptr l,x=>.ptr (iD l x)
def iJ.read:(s:iJ)->Arg->Option s.den
 |.p s,x=>s.read x
 |.own e r,.own f s l=>match Nat.beq e f with
  |true=>if h:s.beq r=true then some (uO h l)else none
  |false=>none
 |.ptr l,.ptr cs=>jR l cs
 |_,_=>none
@[reducible] def jq:List iJ->Type
  |[]=>Unit
  |s::r=>s.den×jq r
def tu:(l:List iJ)->jq l->List Arg
 |[],_=>[]
 |s::r,x=>s.val x.1::tu r x.2
def iR:(l:List iJ)->List Arg->Option (jq l)
 |[],[]=>some ()
 |s::r,x::xs=>match s.read x,iR r xs with
  |some a,some b=>some (a,b)
  |_,_=>none
 |_,_=>none
@[reducible] def kT:List iJ->Type
  |[]=>Unit
  |.ptr l::r=>lN l×kT r
  |.p _::r|.own _ _::r=>kT r
def jS:(l:List iJ)->kT l->List Eff
 |[],_=>[]
 |.ptr l::r,x=>.var (iD l x.1)::jS r x.2
 |.p _::r,x|.own _ _::r,x=>.lose::jS r x
def IY(st:St):(i:Nat)->(l:List iJ)->Option (kT l)
 |_,[]=>some ()
 |i,.ptr l::r=>match st.ah (i*64+48),IY st (i+1) r with
  |some (.var cs),some b=>match cs.flatMap Cell.refs,jR l cs with
   |[],some a=>some (a,b)
   |_,_=>none
  |_,_=>none
 |i,.p _::r|i,.own _ _::r=>IY st (i+1) r
def Arg.avX(i:Nat):Arg->AV
 |.own _ _ _=>.sv (.one (.ref (i*64+49)))
 |.ptr _=>.bV (i*64+48) 0
 |a=>a.av
def D9(n:Nat)(args:List Arg):St:=
 {n:=n,tmps:=λt=>match args[t]? with|some v=>v.avX t|none=>.undef,ah:=dD args}
def abE(st:St)(W:List (Option Nat))(o:Nat):Bool:=Oe st o&&!(VQ o W)
def agE(Θ:jo)(rv:List ResultVar)(sh:List iJ)(bI:List qc)(K:lJ bI×kT sh->Prop)(e:Exit)(st:St):Prop:=
 match e with
 |.normal|.ret=>match Mc Θ st rv with
  |some svs=>match Mc Θ (st.freeze (abE st (Bl bI svs))) rv with
   |some vs=>match zl (Bl bI vs),CP (st.freeze (abE st (Bl bI svs))) bI vs,IY (st.freeze (abE st (Bl bI svs))) 0 sh with
    |true,some d,some b=>K (d,b)
    |_,_,_=>False
   |none=>False
  |none=>False
 |_=>False
def qm(sh:List iJ)(bI:List qc)(F:jq sh->Prop×(lJ bI×kT sh->Prop)):Dx:=λargs=>
 match iR sh args with
 |some x=>some ((F x).1,⟨lJ bI×kT sh,(F x).2,λt=>⟨iQ bI t.1,none⟩,λt=>jS sh t.2⟩)
 |none=>none
def DX(sh:List iJ):List Mode:=sh.map iJ.mode
end Go.Fw
namespace Go.Fw
open Go
variable {P:Program} {w0:World} {M:Nat->Prop} {T:Ext} {γ γ':Nat->Value} {st:St} {a:Act} {w w':World} {Θ:jo} {Γ:kJ}
def adN(args:List Arg)(γ:Nat->Value)(o:Nat):Option Value:=match dD args o with|some (.var _)=>some (γ o)|_=>none
theorem ano{args:List Arg}{o:Nat}{cs:List Cell}(h:dD args o=some (.var cs)):o%64=48:=by
 unfold dD at h;split at h
 .split at h<;>cases h
 .split at h
  .next hm=>exact auR hm
  .cases h
 .cases h
def Wp(args:List Arg)(γ:Nat->Value)(S:Nat->Prop):Ext where
 S:=λb=>S b\/vg (dD args) γ b
 N:=adN args γ
 n48:=by
  intro p v h;unfold adN at h;split at h
  .next cs hc=>exact ano hc
  .cases h
theorem xJ.get{X:V}:∀(as:List Arg)(vs:List Value)(i:Nat),xJ X i as vs->as.length=vs.length/\∀(j:Nat)(b:Arg),as[j]? =some b->∃v,vs[j]? =some v/\LW X (i+j) b v
 |[],[],_,_=>⟨rfl,λj b h=>by simp at h⟩
 |x::as,v::vs,i,⟨h1,h2⟩=>by
  obtain⟨g1,g2⟩:=xJ.get as vs (i+1) h2;refine⟨by simp[g1],λj b hb=>?_⟩;cases j with
  |zero=>simp at hb;subst hb;exact⟨v,rfl,h1⟩
  |succ j=>
   obtain⟨u,hu,hr⟩:=g2 j b (by simpa using hb);exact⟨u,by simpa using hu,by rw[show i+(j+1)=i+1+j by omega];exact hr⟩
 |[],_::_,_,H|_::_,[],_,H=>by cases H
theorem LW.av{X:V}(i:Nat):∀(c:Arg)(v:Value),LW X i c v->aQ X (c.avX i) v
 |.own _ _ _,_,h=>h
 |.ptr _,_,h=>h
 |.sv _,_,h|.kp _,_,h|.fn _ _,_,h=>h
theorem abG{args:List Arg}{vs:Array Value}{S:Nat->Prop}(n:Nat)(hn:args.length<=n)
 (h:xJ ⟨w,w.heap.size,S,γ,dD args⟩ 0 args vs.toList)
 (ho:∀o x,dD args o=some x->bC ⟨w,w.heap.size,S,γ,dD args⟩ o x/\∀b,blk (γ o)=some b->b<w.heap.size)
 (hs:∀o x q y b,dD args o=some x->dD args q=some y->o≠q->blk (γ o)=some b->blk (γ q)≠some b):
 Rel w (vg (dD args) γ) (Wp args γ S) γ (D9 n args) {tmps:=vs++Array.replicate (n-vs.size) undef,defers:=[]} w:=by
 obtain⟨hl0,hget⟩:=xJ.get _ _ 0 h;have hl:vs.size=args.length:=by simpa using hl0.symm
 have le:V.le ⟨w,w.heap.size,S,γ,dD args⟩ ⟨w,w.heap.size,(Wp args γ S).S,γ,dD args⟩:=
  ⟨auT _,λb hb=>⟨⟨hb.1,λhlt=>.inl (hb.2.1 hlt),hb.2.2⟩,rfl⟩,λo cs hx=>⟨⟨cs,hx⟩,rfl⟩,λo e r l fr hx=>⟨⟨l,fr,hx⟩,rfl⟩⟩
 refine⟨λb hb=>.inr hb,rfl,?_,rfl,rfl,rfl,auT _,λ_ _ _=>rfl,λt=>?_,λo x hx=>bC.mono le o x (λ_ _=>rfl) rfl (ho o x hx).1,λo x b hx hb=>⟨(ho o x hx).2 b hb,.inr ⟨o,x,hx,hb⟩⟩,λo x p y b hx hy hop hb=>hs o x p y b hx hy hop hb,λo v cs hN hx=>?_⟩
 .simp[D9];omega
 .simp only[D9];cases ha:args[t]? with
  |none=>trivial
  |some v=>
   obtain⟨u,hu,hr⟩:=hget t v ha;have:(vs++Array.replicate (n-vs.size) undef).getD t undef=u:=by
    have hlt:t<args.length:=by
     rcases avb t args.length with h'|h'
     .exact h'
     .rw[avP h']at ha;cases ha
    have hlt':t<vs.size:=by omega
    rw[awQ,awU hlt'];have:vs[t]? =some u:=by simpa using hu
    rw[this];rfl
   rw[this];rw[avm]at hr;exact aQ.mono le _ _ (LW.av t v u hr)
 .have hx':dD args o=some (.var cs):=hx;have hN':adN args γ o=some v:=hN;unfold adN at hN';rw[hx']at hN';exact Option.some.inj hN'
def AW(a a':Arg):Prop:=
 (∃e r l,a=.own e r l/\a'=.own e r l)\/(∃cs cs',a=.ptr cs/\a'=.ptr cs'/\∀(X:V) vs,ai X cs vs->ai X cs' vs)\/
 ((∀(X:V) v,aQ X a.av v->aQ X a'.av v)/\(∀i,a.avX i=a.av)/\(∀i,a'.avX i=a'.av)/\(∀e r l,a≠ .own e r l)/\(∀cs,a≠ .ptr cs)/\(∀e r l,a'≠ .own e r l)/\(∀cs,a'≠ .ptr cs))
theorem iH.akT{s:iH}{x:Arg}{d:s.den}(h:s.read x=some d):AW x (s.val d):=by
 refine .inr (.inr ⟨λX v hv=>?_,?_⟩)
 .have hx:oG X x v:=by
   cases x with
   |sv _|kp _|fn _ _=>exact hv
   |own _ _ _|ptr _=>cases s<;>simp[iH.read]at h
  exact oG.av _ _ (iH.weak s x d v h hx)
 .cases x<;>cases s<;>first
   |(simp[iH.read]at h;done)
   |exact⟨λ_=>rfl,λ_=>rfl,(λ_ _ _ e=>by cases e),(λ_ e=>by cases e),(λ_ _ _ e=>by cases e),(λ_ e=>by cases e)⟩
theorem iJ.akT{s:iJ}{x:Arg}{d:s.den}(h:s.read x=some d):AW x (s.val d):=by
 unfold iJ.read at h;split at h
 .exact iH.akT h
 .next e r f s l=>
  split at h
  .next hb=>
   split at h
   .next hs=>cases h;have he:=auR hb;subst he;have hsr:=au.eq_of_beq s r hs;subst hsr;exact .inl ⟨e,s,l,rfl,rfl⟩
   .cases h
  .cases h
 .next l cs=>exact .inr (.inl ⟨cs,_,rfl,rfl,λX vs hc=>D6 _ _ _ _ h hc⟩)
 .cases h
theorem Ku:∀{l:List iJ}{xs:List Arg}{d:jq l},iR l xs=some d->(tu l d).length=xs.length/\∀(i:Nat)(a:Arg),xs[i]? =some a->∃a',(tu l d)[i]? =some a'/\AW a a'
 |[],[],_,_=>⟨rfl,λi a h=>by simp at h⟩
 |s::r,x::xs,d,h=>by
  rw[iR]at h;split at h
  .next a b h1 h2=>
   cases h;obtain⟨g1,g2⟩:=Ku h2;refine⟨by simp[tu,g1],λi c hc=>?_⟩;cases i with
   |zero=>simp at hc;subst hc;exact⟨_,rfl,iJ.akT h1⟩
   |succ i=>obtain⟨c',k1,k2⟩:=g2 i c (by simpa using hc);exact⟨c',by simpa[tu]using k1,k2⟩
  .cases h
 |[],_::_,_,h=>by simp[iR]at h
 |_::_,[],_,h=>by simp[iR]at h
theorem Oh{args:List Arg}{o:Nat}(h:∀b,args[o / 64]? =some b->(∀e r l,b≠ .own e r l)/\∀cs,b≠ .ptr cs):dD args o=none:=by
 unfold dD;split
 .next e r l ha=>exact((h _ ha).1 e r l rfl).elim
 .next cs ha=>exact((h _ ha).2 cs rfl).elim
 .rfl
theorem UO{sh:List iJ}{args:List Arg}{x:jq sh}(h:iR sh args=some x)(n:Nat):Covers (D9 n (tu sh x)) (D9 n args):=by
 obtain⟨hl,hget⟩:=Ku h;refine⟨rfl,λt X v hv=>?_,λo=>?_⟩
 .simp only[D9]at hv ⊢;cases ha:args[t]? with
  |none=>
   have:(tu sh x)[t]? =none:=by rw[axX]at ha ⊢;omega
   rw[this];trivial
  |some b=>
   obtain⟨b',hb',hw⟩:=hget t b ha;rw[ha]at hv;rw[hb'];dsimp only at hv ⊢;rcases hw with⟨e,r,l,rfl,rfl⟩|⟨cs,cs',rfl,rfl,_⟩|⟨hw,e1,e2,_⟩
   .exact hv
   .exact hv
   .rw[e1]at hv;rw[e2];exact hw X v hv
 .show(dD (tu sh x) o=none/\dD args o=none)\/∃y y',dD args o=some y/\dD (tu sh x) o=some y'/\Hz y y';cases ha:args[o / 64]? with
  |none=>
   have h2:(tu sh x)[o / 64]? =none:=by rw[axX]at ha ⊢;omega
   exact .inl ⟨Oh (by rw[h2];intro b hb;cases hb),Oh (by rw[ha];intro b hb;cases hb)⟩
  |some b=>
   obtain⟨b',hb',hw⟩:=hget _ b ha;rcases hw with⟨e,r,l,rfl,rfl⟩|⟨cs,cs',rfl,rfl,hc⟩|⟨_,_,_,n1,n2,n3,n4⟩
   .unfold dD;rw[ha,hb'];dsimp only;cases hm:Nat.beq (o%64) 49 with
    |true=>exact .inr ⟨_,_,rfl,rfl,.inr ⟨e,r,l,false,false,rfl,rfl,id⟩⟩
    |false=>exact .inl ⟨rfl,rfl⟩
   .unfold dD;rw[ha,hb'];dsimp only;cases hm:Nat.beq (o%64) 48 with
    |true=>exact .inr ⟨_,_,rfl,rfl,.inl ⟨cs,cs',rfl,rfl,hc⟩⟩
    |false=>exact .inl ⟨rfl,rfl⟩
   .exact .inl ⟨Oh (by rw[hb'];intro c hc;cases hc;exact⟨n3,n4⟩),Oh (by rw[ha];intro c hc;cases hc;exact⟨n1,n2⟩)⟩
theorem Zc(a b:List (Nat×ay))(p:Nat):look (a++b) p=match look b p with|some y=>some y|none=>look a p:=by
 induction a with
 |nil=>simp only[avJ,look];cases look b p<;>rfl
 |cons x a ih=>obtain⟨o,z⟩:=x;rw[avY,look,ih,look];cases look b p<;>rfl
theorem uP:∀(cs:List fF)(k p:Nat)(x:ay),look (jQ k cs).2 p=some x↔∃i e r l fr,p=k+i/\cs[i]? =some (.own e r l fr)/\x=.arr e r l fr
 |[],k,p,x=>by simp[jQ,look]
 |c::cs,k,p,x=>by
  rw[jQ,Zc];have ih:=uP cs (k+1) p x;constructor
  .intro h;split at h
   .next y hy=>cases h;obtain⟨i,e,r,l,fr,h1,h2,h3⟩:=(uP cs (k+1) p x).1 hy;exact⟨i+1,e,r,l,fr,by omega,by simpa using h2,h3⟩
   .next hn=>
    cases c with
    |plain c=>simp[fF.take,look]at h
    |own e r l fr=>
     simp only[fF.take,look]at h;split at h
     .next hb=>cases h;exact⟨0,e,r,l,fr,by have:=auR hb;omega,rfl,rfl⟩
     .cases h
  .rintro⟨i,e,r,l,fr,h1,h2,rfl⟩;cases i with
   |succ i=>
    have:=(uP cs (k+1) p (.arr e r l fr)).2 ⟨i,e,r,l,fr,by omega,by simpa using h2,rfl⟩;rw[this]
   |zero=>
    simp at h2;subst h2;have hn:look (jQ (k+1) cs).2 p=none:=by
     cases hl:look (jQ (k+1) cs).2 p with
     |none=>rfl
     |some y=>obtain⟨i,_,_,_,_,g1,_⟩:=(uP cs (k+1) p y).1 hl;omega
    rw[hn];have hp:p=k:=by omega
    subst hp;simp[fF.take,look]
def Kv(rs:List (Bool×List fF)):List fF:=rs.flatMap (·.2)
theorem ai8(k:Nat)(x:Bool×List fF):(wO k x).2=(jQ k x.2).2:=by
 unfold wO;split
 .next e1 e2=>rw[e2]
 .next e1 e2=>rw[e2]
 .next e1 e2=>rw[e2]
theorem AY:∀(rs:List (Bool×List fF))(k p:Nat)(x:ay),look (iL k rs).2 p=some x↔∃i e r l fr,p=k+i/\(Kv rs)[i]? =some (.own e r l fr)/\x=.arr e r l fr
 |[],k,p,x=>by simp[iL,look,Kv]
 |y::rs,k,p,x=>by
  rw[iL,Zc,ai8];have akU:Kv (y::rs)=y.2++Kv rs:=rfl;constructor
  .intro h;split at h
   .next z hz=>cases h;obtain⟨i,e,r,l,fr,h1,h2,h3⟩:=(AY rs (k+y.2.length) p x).1 hz;refine⟨y.2.length+i,e,r,l,fr,by omega,?_,h3⟩;rw[akU,avq (by omega)];simpa using h2
   .obtain⟨i,e,r,l,fr,h1,h2,h3⟩:=(uP y.2 k p x).1 h;refine⟨i,e,r,l,fr,h1,?_,h3⟩;rw[akU,avA (au5.1 h2).1];exact h2
  .rintro⟨i,e,r,l,fr,h1,h2,rfl⟩;rw[akU]at h2;rcases avb i y.2.length with hlt|hge
   .rw[avA hlt]at h2;have hn:look (iL (k+y.2.length) rs).2 p=none:=by
     cases hl:look (iL (k+y.2.length) rs).2 p with
     |none=>rfl
     |some z=>obtain⟨j,_,_,_,_,g1,_⟩:=(AY rs (k+y.2.length) p z).1 hl;omega
    rw[hn];exact(uP y.2 k p _).2 ⟨i,e,r,l,fr,h1,h2,rfl⟩
   .rw[avq hge]at h2;have:=(AY rs (k+y.2.length) p (.arr e r l fr)).2 ⟨i-y.2.length,e,r,l,fr,by omega,h2,rfl⟩;rw[this]
end Go.Fw
namespace Go.Fw
open Go
set_option linter.unusedVariables false
variable {P:Program} {w0:World} {M:Nat->Prop} {T:Ext} {γ γ':Nat->Value} {st:St} {a:Act} {w w':World} {Θ:jo} {Γ:kJ}
def RF(Y:V)(c:fF)(v:Value)(n:Option Nat):Prop:=
 match c with
 |.plain x=>aO Y x v/\x.refs=[]
 |.own e r l fr=>0<r.len/\((∃o g,n=some o/\Y.ah o=some (.arr e r l g)/\L9 fr g=true/\v=Y.γ o/\v.oneCell'=true)\/(l=[]/\v=.slice none 0 0))
def Ea(Y:V):List fF->List Value->List (Option Nat)->Prop
 |[],[],[]=>True
 |c::cs,v::vs,n::ns=>RF Y c v n/\Ea Y cs vs ns
 |_,_,_=>False
theorem Ea.append{Y:V}:∀(cs:List fF)(vs:List Value)(ns:List (Option Nat))(ds:List fF)(us:List Value)(ms:List (Option Nat)),Ea Y cs vs ns->Ea Y ds us ms->Ea Y (cs++ds) (vs++us) (ns++ms)
 |[],[],[],_,_,_,_,h=>h
 |_::cs,_::vs,_::ns,ds,us,ms,⟨h1,h2⟩,h=>⟨h1,Ea.append cs vs ns ds us ms h2 h⟩
theorem Ea.length{Y:V}:∀(cs:List fF)(vs:List Value)(ns:List (Option Nat)),Ea Y cs vs ns->cs.length=vs.length
 |[],[],[],_=>rfl
 |_::cs,_::vs,_::ns,⟨_,h2⟩=>by simp[Ea.length cs vs ns h2]
theorem Ea.get{Y:V}:∀(cs:List fF)(vs:List Value)(ns:List (Option Nat))(i:Nat)(c:fF),Ea Y cs vs ns->cs[i]? =some c->∃v n,vs[i]? =some v/\ns[i]? =some n/\RF Y c v n
 |[],[],[],i,c,_,h=>by simp at h
 |x::cs,v::vs,n::ns,0,c,⟨h1,_⟩,h=>by simp at h;subst h;exact⟨v,n,rfl,rfl,h1⟩
 |x::cs,v::vs,n::ns,i+1,c,⟨_,h2⟩,h=>by obtain⟨u,m,g1,g2,g3⟩:=Ea.get cs vs ns i c h2 (by simpa using h);exact⟨u,m,by simpa using g1,by simpa using g2,g3⟩
theorem gY.afd(c:gY)(x:Cell)(d:c.den)(h:c.read x=some d)(hx:x.refs=[]):(c.cell d).refs=[]:=by cases c<;>cases x<;>first|rfl|(simp[gY.read]at h;done)|(cases hx)
theorem RC.ajO{Y:V}(hst:Y.ah=st.ah)(hpos:∀o e r l g,st.ah o=some (.arr e r l g)->0<r.len):∀(c:RC)(x:Cell)(d:c.den)(v:Value),c.read st x=some d->aO Y x v->RF Y (c.akS d) v (c.name x):=by
 intro c x d v hr hv;cases c with
 |c s=>
  rw[RC.read]at hr;split at hr
  .next hx=>exact⟨gY.weak s x d v hr hv,gY.afd s x d hr hx⟩
  .cases hr
 |own e r fr=>
  cases x with
  |ref o=>
   simp only[RC.read]at hr;split at hr
   .next f s l g ho=>
    split at hr
    .next hb=>
     split at hr
     .next hs=>cases hr;rw[auO]at hb;have he:=auR hb.1;subst he;have hsr:=au.eq_of_beq s r hs;subst hsr;exact⟨hpos _ _ _ _ _ ho,.inl ⟨o,g,rfl,by rw[hst];exact ho,hb.2,hv.2.1,hv.2.2⟩⟩
     .cases hr
    .cases hr
   .cases hr
  |nil=>
   simp only[RC.read]at hr;split at hr
   .next hb=>cases hr;exact⟨avh Nat.zero_lt_one (by simpa[axc]using hb),.inr ⟨rfl,hv⟩⟩
   .cases hr
  |_=>simp[RC.read]at hr
theorem abH{Y:V}(hst:Y.ah=st.ah)(hpos:∀o e r l g,st.ah o=some (.arr e r l g)->0<r.len):∀(l:List RC)(xs:List Cell)(d:abD l)(vs:List Value),Qi st l xs=some d->ai Y xs vs->Ea Y (adL l d) vs (adM l xs)
 |[],[],_,[],_,_=>trivial
 |c::r,x::xs,d,v::vs,h,⟨h1,h2⟩=>by
  rw[Qi]at h;split at h
  .next a b g1 g2=>cases h;exact⟨RC.ajO hst hpos c x a v g1 h1,abH hst hpos r xs b vs g2 h2⟩
  .cases h
 |[],_::_,_,_,h,_=>by simp[Qi]at h
 |_::_,[],_,_,h,_=>by simp[Qi]at h
theorem qc.ahs{Y:V}(hst:Y.ah=st.ah)(hpos:∀o e r l g,st.ah o=some (.arr e r l g)->0<r.len):∀(s:qc)(x:SV)(d:s.den)(v:Value),s.read st x=some d->dL Y x v->Ea Y (s.out d).2 v.cells.toList (s.names x)
 |.one c,.one x,d,v,h,hv=>by
  rw[FT v (aO.one x v hv)];exact⟨RC.ajO hst hpos c x d v h hv,trivial⟩
 |.agg l,.agg xs,d,v,h,⟨vs,hv,hc⟩=>by
  rw[hv];exact abH hst hpos l xs d _ h hc
 |.one _,.agg _,_,_,h,_|.agg _,.one _,_,_,h,_=>by simp[qc.read]at h
theorem abI{Y:V}(hst:Y.ah=st.ah)(hpos:∀o e r l g,st.ah o=some (.arr e r l g)->0<r.len):∀(l:List qc)(xs:List SV)(d:lJ l)(vs:List Value),CP st l xs=some d->dM Y xs vs->
 Ea Y (Kv (iQ l d)) (vs.flatMap λv=>v.cells.toList) (Bl l xs)
 |[],[],_,[],_,_=>trivial
 |s::r,x::xs,d,v::vs,h,⟨h1,h2⟩=>by
  rw[CP]at h;split at h
  .next a b g1 g2=>cases h;exact Ea.append _ _ _ _ _ _ (qc.ahs hst hpos s x a v g1 h1) (abI hst hpos r xs b vs g2 h2)
  .cases h
 |[],_::_,_,_,h,_=>by simp[CP]at h
 |_::_,[],_,_,h,_=>by simp[CP]at h
def Go1(Z:V)(k:Nat)(c:fF)(v:Value):Prop:=aO Z (c.take k).1 v
def G8(Z:V):Nat->List fF->List Value->Prop
 |_,[],[]=>True
 |k,c::cs,v::vs=>Go1 Z k c v/\G8 Z (k+1) cs vs
 |_,_,_=>False
theorem G8.of{Z:V}:∀(cs:List fF)(vs:List Value)(k:Nat),cs.length=vs.length->(∀i c v,cs[i]? =some c->vs[i]? =some v->Go1 Z (k+i) c v)->G8 Z k cs vs
 |[],[],_,_,_=>trivial
 |c::cs,v::vs,k,hl,h=>⟨h 0 c v rfl rfl,G8.of cs vs (k+1) (by simpa using hl) λi c' v' h1 h2=>by
   have:=h (i+1) c' v' (by simpa using h1) (by simpa using h2)
   rwa [show k+(i+1)=k+1+i by omega]at this⟩
theorem G8.split{Z:V}:∀(cs:List fF)(vs:List Value)(ds:List fF)(us:List Value)(k:Nat),cs.length=vs.length->G8 Z k (cs++ds) (vs++us)->G8 Z k cs vs/\G8 Z (k+cs.length) ds us
 |[],[],_,_,_,_,h=>⟨trivial,h⟩
 |c::cs,v::vs,ds,us,k,hl,⟨h1,h2⟩=>by obtain⟨g1,g2⟩:=G8.split cs vs ds us (k+1) (by simpa using hl) h2;exact⟨⟨h1,g1⟩,by rw[show k+(c::cs).length=k+1+cs.length by simp;omega];exact g2⟩
theorem G8.cells{Z:V}:∀(cs:List fF)(vs:List Value)(k:Nat),G8 Z k cs vs->ai Z (jQ k cs).1 vs
 |[],[],_,_=>trivial
 |c::cs,v::vs,k,⟨h1,h2⟩=>⟨h1,G8.cells cs vs (k+1) h2⟩
theorem qc.go{Y Z:V}:∀(s:qc)(x:SV)(d:s.den)(v:Value)(k:Nat),s.read st x=some d->dL Y x v->G8 Z k (s.out d).2 v.cells.toList->dL Z (wO k (s.out d)).1 v
 |.one c,.one x,d,v,k,h,hv,hg=>by
  rw[FT v (aO.one x v hv)]at hg;exact hg.1
 |.agg l,.agg xs,d,v,k,h,⟨vs,hv,hc⟩,hg=>by
  rw[hv]at hg ⊢;exact⟨vs,rfl,G8.cells _ _ _ hg⟩
 |.one _,.agg _,_,_,_,h,_,_|.agg _,.one _,_,_,_,h,_,_=>by simp[qc.read]at h
theorem afe{Y Z:V}(hst:Y.ah=st.ah)(hpos:∀o e r l g,st.ah o=some (.arr e r l g)->0<r.len):∀(l:List qc)(xs:List SV)(d:lJ l)(vs:List Value)(k:Nat),CP st l xs=some d->dM Y xs vs->
 G8 Z k (Kv (iQ l d)) (vs.flatMap λv=>v.cells.toList)->dM Z (iL k (iQ l d)).1 vs
 |[],[],_,[],_,_,_,_=>trivial
 |s::r,x::xs,d,v::vs,k,h,⟨h1,h2⟩,hg=>by
  rw[CP]at h;split at h
  .next a b g1 g2=>cases h;have hl:=Ea.length _ _ _ (qc.ahs hst hpos s x a v g1 h1);obtain⟨k1,k2⟩:=G8.split _ _ _ _ k hl hg;exact⟨qc.go s x a v k g1 h1 k1,afe hst hpos r xs b vs _ g2 h2 k2⟩
  .cases h
 |[],_::_,_,_,_,h,_,_=>by simp[CP]at h
 |_::_,[],_,_,_,h,_,_=>by simp[CP]at h
theorem Zd:∀(l:List gY)(xs:List Cell)(d:lN l),jR l xs=some d->xs.flatMap Cell.refs=[]->(iD l d).flatMap Cell.refs=[]
 |[],[],_,_,_=>rfl
 |c::r,x::xs,d,h,hx=>by
  rw[jR]at h;split at h
  .next a b g1 g2=>cases h;rw[avZ,avF]at hx;show(c.cell a::iD r b).flatMap Cell.refs=[];rw[avZ,gY.afd c x a g1 hx.1,Zd r xs b g2 hx.2,avi]
  .cases h
 |[],_::_,_,h,_=>by simp[jR]at h
 |_::_,[],_,h,_=>by simp[jR]at h
theorem Kw:∀(sh:List iJ)(i:Nat)(b:kT sh),IY st i sh=some b->∀(j:Nat)(e:Eff),(jS sh b)[j]? =some e->
 e=.lose\/∃l cs cs0,sh[j]? =some (.ptr l)/\e=.var cs/\st.ah ((i+j)*64+48)=some (.var cs0)/\cs0.flatMap Cell.refs=[]/\cs.flatMap Cell.refs=[]/\∀(X:V) vs,ai X cs0 vs->ai X cs vs
 |[],_,_,_,j,e,he=>by simp[jS]at he
 |.ptr l::r,i,b,h,j,e,he=>by
  rw[IY]at h;split at h
  .next cs b' hx hb=>
   split at h
   .next a hr ha=>
    cases h;cases j with
    |zero=>
     simp[jS]at he;subst he;exact .inr ⟨l,_,cs,rfl,rfl,by simpa using hx,hr,Zd _ _ _ ha hr,λX vs hc=>D6 _ _ _ _ ha hc⟩
    |succ j=>
     rcases Kw r (i+1) b' hb j e (by simpa[jS]using he)with h|⟨l,cs',cs0,h1,h2,h3,h4⟩
     .exact .inl h
     .exact .inr ⟨l,cs',cs0,by simpa using h1,h2,by rw[show i+(j+1)=i+1+j by omega];exact h3,h4⟩
   .cases h
  .cases h
 |.p _::r,i,b,h,j,e,he|.own _ _::r,i,b,h,j,e,he=>by
  rw[IY]at h;cases j with
  |zero=>simp[jS]at he;exact .inl he.symm
  |succ j=>
   rcases Kw r (i+1) b h j e (by simpa[jS]using he)with h|⟨l,cs',cs0,h1,h2,h3,h4⟩
   .exact .inl h
   .exact .inr ⟨l,cs',cs0,by simpa using h1,h2,by rw[show i+(j+1)=i+1+j by omega];exact h3,h4⟩
theorem abJ:∀{sh:List iJ}{xs:List Arg}{d:jq sh},iR sh xs=some d->∀(j:Nat)(l:List gY),sh[j]? =some (.ptr l)->∃cs,xs[j]? =some (.ptr cs)
 |[],[],_,_,j,l,h=>by simp at h
 |s::r,x::xs,d,h,j,l,hj=>by
  rw[iR]at h;split at h
  .next a b h1 h2=>
   cases j with
   |zero=>
    simp at hj;subst hj;cases x with
    |ptr cs=>exact⟨cs,rfl⟩
    |_=>simp[iJ.read]at h1
   |succ j=>obtain⟨cs,hc⟩:=abJ h2 j l (by simpa using hj);exact⟨cs,by simpa using hc⟩
  .cases h
 |[],_::_,_,h,_,_,_=>by simp[iR]at h
 |_::_,[],_,h,_,_,_=>by simp[iR]at h
theorem ama{sh:List iJ}{b:kT sh}(hb:IY st 0 sh=some b){q:Nat}{y:ay}(h:mr (jS sh b) q=some y):
 q%64=48/\∃l cs cs0,sh[q / 64]? =some (.ptr l)/\y=.var cs/\st.ah q=some (.var cs0)/\cs0.flatMap Cell.refs=[]/\cs.flatMap Cell.refs=[]/\∀(X:V) vs,ai X cs0 vs->ai X cs vs:=by
 unfold mr at h;split at h
 .next e r l he=>rcases Kw sh 0 b hb _ _ he with h'|⟨_,_,_,_,h',_⟩<;>cases h'
 .next cs he=>
  split at h
  .next hm=>
   have hm':=auR hm;cases h;rcases Kw sh 0 b hb _ _ he with h'|⟨l,cs',cs0,h1,h2,h3,h4⟩
   .cases h'
   .cases h2;refine⟨hm',l,_,cs0,h1,rfl,?_,h4⟩;rw[show q=(0+q / 64)*64+48 by omega];exact h3
  .cases h
 .cases h
def iJ.sK:(s:iJ)->s.den->Prop
 |.p s,x=>s.sK x
 |.own _ r,(l:List r.den)=>∀x∈l,r.sK x
 |.ptr l,x=>X8 l x
def Iz:(l:List iJ)->jq l->Prop
 |[],_=>True
 |s::r,x=>s.sK x.1/\Iz r x.2
theorem iH.X9{X:V}(s:iH)(x:Arg)(d:s.den)(v:Value)(h:s.read x=some d)(hr:oG X x v):s.sK d:=
 (CO (X:=X) [s] (d,()) [v] ⟨iH.weak s x d v h hr,trivial⟩).1
theorem Wq{X:V}{args:List Arg}(ho:∀o x,dD args o=some x->bC X o x):∀(sh:List iJ)(xs:List Arg)(d:jq sh)(vs:List Value)(i:Nat),(∀j a,xs[j]? =some a->args[i+j]? =some a)->
 iR sh xs=some d->xJ X i xs vs->Iz sh d
 |[],[],_,_,_,_,_,_=>trivial
 |s::r,x::xs,d,v::vs,i,hj,h,⟨hv,hvs⟩=>by
  rw[iR]at h;split at h
  .next a b h1 h2=>
   cases h;refine⟨?_,Wq ho r xs b vs (i+1) (λj c hc=>by have:=hj (j+1) c (by simpa using hc);rwa [show i+(j+1)=i+1+j by omega]at this) h2 hvs⟩;have hx:args[i]? =some x:=hj 0 x rfl;cases s with
   |p s=>
    have h1':s.read x=some a:=by simpa[iJ.read]using h1
    refine iH.X9 (X:=X) s x a v h1' ?_;cases x with
    |own _ _ _|ptr _=>cases s<;>simp[iH.read]at h1'
    |_=>exact hv
   |own e r'=>
    cases x with
    |own f s' l=>
     have h1':(match Nat.beq e f with|true=>if h:s'.beq r'=true then some (uO h l)else none|false=>none)=some a:=h1;split at h1'
     .split at h1'
      .next hb hs=>
       cases h1';have hsr:=au.eq_of_beq s' r' hs;subst hsr;have pJ:dD args (i*64+49)=some (.arr f s' l false):=by unfold dD;rw[show(i*64+49) / 64=i by omega,hx];dsimp only;rw[show(i*64+49)%64=49 by omega]
       obtain⟨us,_,_,_,hrow⟩:=ho _ _ pJ;intro y hy;have hy':y∈l:=hy;obtain⟨j,hj1,hj2⟩:=awF.1 hy';exact aI.sK s' _ _ (hrow j y (by rw[auX hj1,hj2]))
      .cases h1'
     .cases h1'
    |_=>simp[iJ.read]at h1
   |ptr l=>
    cases x with
    |ptr cs=>
     have h1':jR l cs=some a:=h1;have pJ:dD args (i*64+48)=some (.var cs):=by unfold dD;rw[show(i*64+48) / 64=i by omega,hx];dsimp only;rw[show(i*64+48)%64=48 by omega]
     obtain⟨_,arr,_,_,_,hc⟩:=ho _ _ pJ;exact IX l a _ (D6 _ _ _ _ h1' hc)
    |_=>simp[iJ.read]at h1
  .cases h
 |[],_::_,_,_,_,_,h,_=>by simp[iR]at h
 |_::_,[],_,_,_,_,h,_=>by simp[iR]at h
theorem Jy:∀(l:List iJ)(d:jq l),(tu l d).length=l.length
 |[],_=>rfl
 |_::r,d=>by simp[tu,Jy r d.2]
theorem Out.anp(rs:List (Bool×List fF))(k:Nat):((⟨rs,none⟩:Out).take k).2=(iL k rs).2:=by
 unfold Out.take;dsimp only;split
 .next h=>rw[h]
 .next h=>rw[h]
theorem Out.anq(rs:List (Bool×List fF))(k:Nat):((⟨rs,none⟩:Out).take k).1=(match (iL k rs).1 with|[v]=>AV.sv v|vs=>.mJ vs):=by
 unfold Out.take;dsimp only;split
 .next h=>rw[h]
 .next vs δ hne h=>
  rw[h];dsimp only;rcases vs with _|⟨v,_|⟨v2,r⟩⟩
  .rfl
  .exact(hne v rfl).elim
  .rfl
theorem asr{args:List Arg}{S:Nat->Prop}{sh:List iJ}{bI:List qc}{x:jq sh}(hx:iR sh args=some x){d:lJ bI}{b:kT sh}{k:Nat}{vs:List SV}{us:List Value}
 (hR:Rel w (vg (dD args) γ) (Wp args γ S) γ' st a w') (hrs:dM (aj w (Wp args γ S) γ' st w') vs us) (hnd:zl (Bl bI vs)=true) (hrd:CP st bI vs=some d) (hbk:IY st 0 sh=some b)
 (hap:∀o x,look ((⟨iQ bI d,none⟩:Out).take k).2 o=some x->mr (jS sh b) o=none):
 ∃γ2,aQ ⟨w',w.heap.size,qy S args (jS sh b) γ,γ2,look ((⟨iQ bI d,none⟩:Out).take k).2⟩ ((⟨iQ bI d,none⟩:Out).take k).1 (if h:us.toArray.size=1 then us.toArray[0]else .tuple us.toArray)/\
  (∀o x,look ((⟨iQ bI d,none⟩:Out).take k).2 o=some x->bC ⟨w',w.heap.size,qy S args (jS sh b) γ,γ2,look ((⟨iQ bI d,none⟩:Out).take k).2⟩ o x/\
    ∀b',blk (γ2 o)=some b'->b'<w'.heap.size/\(w.heap.size<=b'\/vg (dD args) γ b')/\∀q y,mr (jS sh b) q=some y->blk (γ q)≠some b')/\
  (∀o x q y b',look ((⟨iQ bI d,none⟩:Out).take k).2 o=some x->look ((⟨iQ bI d,none⟩:Out).take k).2 q=some y->o≠q->blk (γ2 o)=some b'->blk (γ2 q)≠some b')/\
  (∀o x,mr (jS sh b) o=some x->γ2 o=γ o/\bC ⟨w',w.heap.size,qy S args (jS sh b) γ,γ2,look ((⟨iQ bI d,none⟩:Out).take k).2⟩ o x):=by
 rw[Out.anp]at hap ⊢;rw[Out.anq]
 skip
 let Y:V:=aj w (Wp args γ S) γ' st w'
 let fv:List Value:=us.flatMap λv=>v.cells.toList
 let aG:=jS sh b
 let γ2:Nat->Value:=λp=>match mr aG p with|some _=>γ p|none=>fv.getD (p-k) undef
 let Z:V:=⟨w',w.heap.size,qy S args aG γ,γ2,look (iL k (iQ bI d)).2⟩
 have hpos:∀o e r l g,st.ah o=some (.arr e r l g)->0<r.len:=λo e r l g ho=>by obtain⟨_,_,h,_⟩:=hR.ah o _ ho;exact h
 have hF:Ea Y (Kv (iQ bI d)) fv (Bl bI vs):=abI (st:=st) rfl hpos bI vs d us hrd hrs;have hbq:∀q y,mr aG q=some y->γ' q=γ q/\∃cs cs0,y=.var cs/\st.ah q=some (.var cs0)/\cs0.flatMap Cell.refs=[]/\cs.flatMap Cell.refs=[]/\∀(X:V) vs,ai X cs0 vs->ai X cs vs:=by
  intro q y hq;obtain⟨hm,l,cs,cs0,h1,h2,h3,h4,h5,h6⟩:=ama hbk hq;refine⟨?_,cs,cs0,h2,h3,h4,h5,h6⟩;obtain⟨ci,hci⟩:=abJ hx _ l h1;have ho:dD args q=some (.var ci):=by unfold dD;rw[hci];dsimp only;rw[hm]
  have hN:(Wp args γ S).N q=some (γ q):=by show adN args γ q=_;unfold adN;rw[ho]
  exact hR.pin q _ _ hN h3
 have hG:∀p X,look (iL k (iQ bI d)).2 p=some X->∃i e r l fr,p=k+i/\(Kv (iQ bI d))[i]? =some (.own e r l fr)/\X=.arr e r l fr/\0<r.len/\
  ((∃o g,(Bl bI vs)[i]? =some (some o)/\st.ah o=some (.arr e r l g)/\L9 fr g=true/\γ2 p=γ' o/\(γ2 p).oneCell'=true)\/(l=[]/\γ2 p=.slice none 0 0)):=by
  intro p X hp;obtain⟨i,e,r,l,fr,h1,h2,h3⟩:=(AY _ k p X).1 hp;obtain⟨v,n,g1,g2,hr,hv⟩:=Ea.get _ _ _ i _ hF h2;have hγ:γ2 p=v:=by show(match mr aG p with|some _=>γ p|none=>fv.getD (p-k) undef)=v;rw[hap p X hp];dsimp only;rw[h1,show k+i-k=i by omega,auS,g1];rfl
  refine⟨i,e,r,l,fr,h1,h2,h3,hr,?_⟩;rcases hv with⟨o,g,hn,ho,hb,hv,h1c⟩|⟨hl,hv⟩
  .exact .inl ⟨o,g,by rw[g2,hn],ho,hb,hγ.trans hv,by rw[hγ];exact h1c⟩
  .exact .inr ⟨hl,hγ.trans hv⟩
 have RP:∀b',Y.foot b'->Z.foot b':=by
  intro b' hb';refine⟨hb'.1,λhlt=>⟨hb'.2.1 hlt,λq y hq=>?_⟩,λp X hp=>?_⟩
  .obtain⟨hγ,cs,cs0,_,h3,_⟩:=hbq q y hq;rw[← hγ];exact hb'.2.2 q _ h3
  .obtain⟨i,e,r,l,fr,_,_,_,_,hc⟩:=hG p X hp;show blk (γ2 p)≠some b';rcases hc with⟨o,g,_,ho,_,hγ,_⟩|⟨_,hγ⟩
   .rw[hγ];exact hb'.2.2 o _ ho
   .rw[hγ];intro h;cases h
 have amb:∀fr b',Y.cO fr b'->Z.cO fr b':=λfr b' h=>⟨RP b' h.1,h.2⟩;have hgo:G8 Z k (Kv (iQ bI d)) fv:=by
  refine G8.of _ _ _ (Ea.length _ _ _ hF) λi c v hc hv=>?_;obtain⟨v',n,g1,g2,g3⟩:=Ea.get _ _ _ i c hF hc;rw[hv]at g1;cases g1;cases c with
  |plain x=>
   exact(EI (Y:=Y) (Z:=Z) rfl amb [x] [v] (by simpa using g3.2) ⟨g3.1,trivial⟩).1
  |own e r l fr=>
   have hp:look (iL k (iQ bI d)).2 (k+i)=some (.arr e r l fr):=(AY _ k _ _).2 ⟨i,e,r,l,fr,rfl,hc,rfl⟩;have hγ:γ2 (k+i)=v:=by show(match mr aG (k+i)with|some _=>γ (k+i)|none=>fv.getD (k+i-k) undef)=v;rw[hap _ _ hp];dsimp only;rw[show k+i-k=i by omega,auS,hv];rfl
   refine⟨⟨e,r,l,fr,hp⟩,hγ.symm,?_⟩;rcases g3.2 with⟨_,_,_,_,_,_,h⟩|⟨_,h⟩
   .exact h
   .rw[h];rfl
 have hsv:dM Z (iL k (iQ bI d)).1 us:=afe (st:=st) (Y:=Y) rfl hpos bI vs d us k hrd hrs hgo;refine⟨γ2,?_,λp X hp=>?_,λp X q X' b' hp hq hne hb1 hb2=>?_,λq y hq=>?_⟩
 .have hl:=dM.length _ _ hsv
  match hm:(iL k (iQ bI d)).1,us,hsv,hl with
  |[v],[u],hk,_=>exact hk.1
  |[],[],hk,_=>exact⟨_,by simp,hk⟩
  |v::v2::r,u::u2::us,hk,hl=>exact⟨_,by simp,hk⟩
  |[],_::_,hk,h4|_::_,[],hk,h4|[_],_::_::_,hk,h4|_::_::_,[_],hk,h4=>simp at h4
 .obtain⟨i,e,r,l,fr,_,_,rfl,hr,hc⟩:=hG p X hp;rcases hc with⟨o,g,_,ho,hb,hγ,_⟩|⟨rfl,hγ⟩
  .have hO:bC Y o (.arr e r l g):=hR.ah o _ ho;have hold:∀b',blk (γ' o)=some b'->fr=true->w.heap.size<=b':=by intro b' hb' hfr;subst hfr;have hg:g=true:=hb;subst hg;obtain⟨_,_,_,hn,_⟩:=hO;exact hn b' hb' rfl
   refine⟨bC.X5 (Y:=Y) (Z:=Z) hO hγ rfl (λb' hb'=>⟨RP b' hb'.1,λhfr=>hb'.2 ?_⟩) hold,λb' hb'=>?_⟩
   .subst hfr;exact hb
   .rw[hγ]at hb';obtain⟨h1,h2⟩:=hR.lt o _ b' ho hb';refine⟨h1,h2,λq y hq=>?_⟩;obtain⟨hγq,cs,cs0,_,h3,_⟩:=hbq q y hq;rw[← hγq];refine hR.sep o _ q _ b' ho h3 ?_ hb';intro e;subst e;rw[ho]at h3;cases h3
  .refine⟨⟨[],⟨by simp,.inl ⟨hγ,rfl⟩⟩,hr,(λb' hb'=>by have h0:blk (γ2 p)=some b':=hb';rw[hγ]at h0;cases h0),λi x hi=>by simp at hi⟩,λb' hb'=>by rw[hγ]at hb';cases hb'⟩
 .obtain⟨i,e,r,l,fr,hi,_,_,_,hc⟩:=hG p X hp;obtain⟨j,e',r',l',fr',hj,_,_,_,hc'⟩:=hG q X' hq;rcases hc with⟨o,g,hn,ho,_,hγ,_⟩|⟨_,hγ⟩
  .rcases hc' with⟨o',g',hn',ho',_,Qa,_⟩|⟨_,Qa⟩
   .rw[hγ]at hb1;rw[Qa]at hb2;have:o≠o':=by intro e;subst e;have:=O0 hnd _ _ _ hn hn';omega
    exact hR.sep o _ o' _ b' ho ho' this hb1 hb2
   .rw[Qa]at hb2;cases hb2
  .rw[hγ]at hb1;cases hb1
 .obtain⟨hγ,cs,cs0,rfl,h3,h4,h5,h6⟩:=hbq q y hq;have mP:γ2 q=γ q:=by show(match mr aG q with|some _=>γ q|none=>fv.getD (q-k) undef)=γ q;rw[hq]
  refine⟨mP,?_⟩;obtain⟨b',arr,t,k1,k2,k3⟩:=hR.ah q _ h3;refine⟨b',arr,t,?_,k2,EI (Y:=Y) (Z:=Z) rfl amb _ _ h5 (h6 _ _ k3)⟩;show γ2 q=_;rw[mP,← hγ];exact k1
theorem adO{G:jV}(hE:EnvB P G Θ Γ)(hm:P.follows .mixedOrders=true){f:FuncId}{fn:Func}{c:Code}(hf:P.funcs[f]? =some fn)(hb:fn.body=some c)(H:Hints)
 {sh:List iJ} {bI:List qc} {F:jq sh->Prop×(lJ bI×kT sh->Prop)} (hn:Nat.ble sh.length fn.ntmps=true) (hne:∀x,(F x).1->∃t,(F x).2 t)
 (hwalk:∀x,Iz sh x->(F x).1->F7 Θ Γ H c (agE Θ fn.results.toList sh bI (F x).2) (D9 fn.ntmps (tu sh x))):jm P G f (qm sh bI F):=by
 intro args p ρ hcon hp;unfold qm at hcon;split at hcon
 case h_2=>cases hcon
 next x hx=>
 cases hcon;refine⟨hne x hp,λk S γ vs w hG hrep pJ hsep hap=>?_⟩;have hlen:=(Ku hx).1;rw[Jy]at hlen;have hn':args.length<=fn.ntmps:=by rw[← hlen];simpa[axc]using hn
 have hin:Iz sh x:=Wq (λo X ho=>(pJ o X ho).1) sh args x vs.toList 0 (λj a h=>by rwa [avm]) hx hrep;have hR0:=abG (S:=S) fn.ntmps hn' hrep (λo X ho=>⟨(pJ o X ho).1,λb hb=>((pJ o X ho).2 b hb).1⟩) hsep;have hR1:=hR0.covers (UO hx fn.ntmps);refine calls_of_wp hf hb (Wn ⟨hE,hG,λb hb=>?_⟩ hm H c _ _ _ _ _ _ hR1 (hwalk x hin hp) ?_)
 .obtain⟨o,X,ho,hb⟩:=hb;exact((pJ o X ho).2 b hb).2
 intro e s γ' a' w' he hR;have hret:∃(us:List Value)(t:lJ bI×kT sh),(fn.results.mapM (IW a'.tmps)).run P w'=.ok us.toArray w'/\(F x).2 t/\∃γ2,
  aQ ⟨w',w.heap.size,qy S args (jS sh t.2) γ,γ2,look ((⟨iQ bI t.1,none⟩:Out).take k).2⟩ ((⟨iQ bI t.1,none⟩:Out).take k).1 (if h:us.toArray.size=1 then us.toArray[0]else .tuple us.toArray)/\
  (∀o x',look ((⟨iQ bI t.1,none⟩:Out).take k).2 o=some x'->bC ⟨w',w.heap.size,qy S args (jS sh t.2) γ,γ2,look ((⟨iQ bI t.1,none⟩:Out).take k).2⟩ o x'/\
    ∀b,blk (γ2 o)=some b->b<w'.heap.size/\(w.heap.size<=b\/vg (dD args) γ b)/\∀q y,mr (jS sh t.2) q=some y->blk (γ q)≠some b)/\
  (∀o x' q y b,look ((⟨iQ bI t.1,none⟩:Out).take k).2 o=some x'->look ((⟨iQ bI t.1,none⟩:Out).take k).2 q=some y->o≠q->blk (γ2 o)=some b->blk (γ2 q)≠some b)/\
  (∀o x',mr (jS sh t.2) o=some x'->γ2 o=γ o/\bC ⟨w',w.heap.size,qy S args (jS sh t.2) γ,γ2,look ((⟨iQ bI t.1,none⟩:Out).take k).2⟩ o x'):=by
  have he':(e=.normal\/e=.ret)/\agE Θ fn.results.toList sh bI (F x).2 .ret s:=by
   cases e with
   |normal=>exact⟨.inl rfl,he⟩
   |ret=>exact⟨.inr rfl,he⟩
   |_=>exact he.elim
  have he2:=he'.2;simp only[agE]at he2;split at he2
  .next svs auo=>
   split at he2
   .next vs' hvs'=>
    split at he2
    .next d b hnd hd hb'=>have hRf:=hR.freeze (abE s (Bl bI svs));obtain⟨us,hus,hrs⟩:=Md hE.types hRf _ _ hvs';refine⟨us,(d,b),?_,he2,asr hx hRf hrs hnd hd hb' (hap (d,b) he2)⟩;rw[axl,Sem.run_map,hus];rfl
    .exact he2.elim
   .exact he2.elim
  .exact he2.elim
 obtain⟨us,t,hus,ht,γ2,h1,h2,h3,h4⟩:=hret;have hfin:bodyPost P fn (λe w'=>∃t,(F x).2 t/\N7 S args γ w k ⟨iQ bI t.1,none⟩ (jS sh t.2) e w') .ret a' w':=by refine⟨hR.defers,if h:us.toArray.size=1 then us.toArray[0]else .tuple us.toArray,?_,t,ht,_,γ2,rfl,hR.os,hR.tape,hR.output,hR.grow,hR.kept,h1,h2,h3,h4⟩;rw[RY,avd,hus];simp only[avG,avQ]
 cases e with
 |normal=>exact hfin
 |ret=>exact hfin
 |_=>exact he.elim
def agF(rv:List ResultVar)(l:List gY)(K:lN l->Prop)(e:Exit)(st:St):Prop:=
 match e with
 |.normal|.ret=>match rv with
  |[.tmp t]=>match st.tmps t with
   |.bV o off=>match Nat.beq off 0,(st.freeze (Oe st)).ah o with
    |true,some (.var cs)=>match cs.flatMap Cell.refs,jR l cs with
     |[],some d=>K d
     |_,_=>False
    |_,_=>False
   |_=>False
  |_=>False
 |_=>False
def loses(sh:List iJ):List Eff:=sh.map λ_=>.lose
def anr(sh:List iJ)(l:List gY)(F:jq sh->Prop×(lN l->Prop)):Dx:=λargs=>
 match iR sh args with
 |some x=>some ((F x).1,⟨lN l,(F x).2,λt=>⟨[],some (iD l t)⟩,λ_=>loses sh⟩)
 |none=>none
theorem RZ(sh:List iJ)(q:Nat):mr (loses sh) q=none:=by unfold mr loses;rw[avK];cases sh[q / 64]? <;>rfl
theorem Qj:∀(l:List gY)(cs:List Cell)(d:lN l),jR l cs=some d->cs.flatMap Cell.refs=[]->(iD l d).flatMap Cell.refs=[]
 |[],[],_,_,_=>rfl
 |c::l,x::xs,d,h,hn=>by
  rw[jR]at h;rw[avZ,avF]at hn;split at h
  .next p q hp hq=>
   cases h;show((c.cell p)::iD l q).flatMap Cell.refs=[];rw[avZ,avF];refine⟨?_,Qj l xs q hq hn.2⟩;cases c with
   |ref o=>
    cases x<;>simp[gY.read,Cell.refs]at hp hn
   |_=>rfl
  .cases h
 |[],_::_,_,h,_=>by simp[jR]at h
 |_::_,[],_,h,_=>by simp[jR]at h
theorem apf{G:jV}(hE:EnvB P G Θ Γ)(hm:P.follows .mixedOrders=true){f:FuncId}{fn:Func}{c:Code}(hf:P.funcs[f]? =some fn)(hb:fn.body=some c)(H:Hints)
 {sh:List iJ} {l:List gY} {F:jq sh->Prop×(lN l->Prop)} (hn:Nat.ble sh.length fn.ntmps=true) (hne:∀x,(F x).1->∃t,(F x).2 t)
 (hwalk:∀x,Iz sh x->(F x).1->F7 Θ Γ H c (agF fn.results.toList l (F x).2) (D9 fn.ntmps (tu sh x))):jm P G f (anr sh l F):=by
 intro args p ρ hcon hp;unfold anr at hcon;split at hcon
 case h_2=>cases hcon
 next x hx=>
 cases hcon;refine⟨hne x hp,λk S γ vs w hG hrep pJ hsep hap=>?_⟩;have hlen:=(Ku hx).1;rw[Jy]at hlen;have hn':args.length<=fn.ntmps:=by rw[← hlen];simpa[axc]using hn
 have hin:Iz sh x:=Wq (λo X ho=>(pJ o X ho).1) sh args x vs.toList 0 (λj a h=>by rwa [avm]) hx hrep;have hR0:=abG (S:=S) fn.ntmps hn' hrep (λo X ho=>⟨(pJ o X ho).1,λb hb=>((pJ o X ho).2 b hb).1⟩) hsep;have hR1:=hR0.covers (UO hx fn.ntmps);refine calls_of_wp hf hb (Wn ⟨hE,hG,λb hb=>?_⟩ hm H c _ _ _ _ _ _ hR1 (hwalk x hin hp) ?_)
 .obtain⟨o,X,ho,hb⟩:=hb;exact((pJ o X ho).2 b hb).2
 intro e s γ' a' w' he hR;have he':agF fn.results.toList l (F x).2 .ret s:=by
  cases e with
  |normal=>exact he
  |ret=>exact he
  |_=>exact he.elim
 have hfin:bodyPost P fn (λe w'=>∃t,(F x).2 t/\N7 S args γ w k ⟨[],some (iD l t)⟩ (loses sh) e w') .ret a' w':=by
  simp only[agF]at he';split at he'
  case h_2=>exact he'.elim
  next t hrv=>
  split at he'
  case h_2=>exact he'.elim
  next o off htm=>
  split at he'
  case h_2=>exact he'.elim
  next cs hoff hcs=>
  split at he'
  case h_2=>exact he'.elim
  next d hnr hd=>
  have hoff:=auR hoff;subst hoff;have hRf:=hR.freeze (Oe s);have hv:=hR.tmps t;rw[htm]at hv;obtain⟨b,cs0,_,hγ,hval⟩:=hv;obtain⟨b',arr,ty,g1,g2,g3⟩:=hRf.ah o _ hcs;have g1:γ' o=.pointer (some ⟨b',0,none⟩):=g1;have hγ:γ' o=.pointer (some ⟨b,0,none⟩):=hγ;rw[hγ]at g1;cases g1;have hblk:blk (γ' o)=some b:=by rw[hγ];rfl
  have hlt:=hRf.lt o _ b hcs hblk
  let γ2:Nat->Value:=λ_=>γ' o
  let Z:V:=⟨w',w.heap.size,qy S args (loses sh) γ,γ2,look (Out.take k ⟨[],some (iD l d)⟩).2⟩
  have hlook:∀q y,look (Out.take k ⟨[],some (iD l d)⟩).2 q=some y->q=k-1/\y=.var (iD l d):=by
   intro q y hq;have hmem:=yu _ q y hq;have:(q,y)=(k-1,.var (iD l d)):=by simpa[Out.take]using hmem
   exact⟨congrArg Prod.fst this,congrArg Prod.snd this⟩
  have RP:∀fr b',(aj w (Wp args γ S) γ' (s.freeze (Oe s)) w').cO fr b'->Z.cO fr b':=by intro fr b' hb';refine⟨⟨hb'.1.1,λhlt'=>⟨hb'.1.2.1 hlt',λq y hq=>by rw[RZ]at hq;cases hq⟩,λq y hq=>?_⟩,hb'.2⟩;exact hb'.1.2.2 o _ hcs
  have hcells:ai Z (iD l d) arr.toList:=
   EI (Y:=aj w (Wp args γ S) γ' (s.freeze (Oe s)) w') (Z:=Z) rfl RP _ _ (Qj l cs d hd hnr) (D6 l cs d _ hd g3)
  have hself:look (Out.take k ⟨[],some (iD l d)⟩).2 (k-1)=some (.var (iD l d)):=by simp[Out.take,look]
  refine⟨hR.defers,a'.tmps.getD t undef,?_,d,he',_,γ2,rfl,hR.os,hR.tape,hR.output,hR.grow,hR.kept,?_,λq y hq=>?_,λq y q' y' b' hq hq' hne'=>?_,λq y hq=>by rw[RZ]at hq;cases hq⟩
  .have:fn.results=#[.tmp t]:=by apply aww;simpa using hrv
   have hmap:(Array.mapM (IW a'.tmps) #[ResultVar.tmp t]).run P w'=.ok #[a'.tmps.getD t undef] w':=by rw[axl,Sem.run_map];simp only[ax6,List.mapM_nil,IW];rfl
   rw[RY,this,avd,hmap];rfl
  .exact⟨b,iD l d,hself,hγ,hval⟩
  .obtain⟨rfl,rfl⟩:=hlook q y hq;refine⟨⟨b,arr,ty,hγ,g2,hcells⟩,λb' hb'=>?_⟩;have hb':blk (γ' o)=some b':=hb';rw[hblk]at hb';cases hb';exact⟨hlt.1,hlt.2,λq y hq=>by rw[RZ]at hq;cases hq⟩
  .obtain⟨rfl,_⟩:=hlook q y hq;obtain⟨rfl,_⟩:=hlook q' y' hq';exact(hne' rfl).elim
 cases e with
 |normal=>exact hfin
 |ret=>exact hfin
 |_=>exact he.elim
end Go.Fw
namespace Go.Fw
open Go
def CT.isZero:CT->Value->Bool
 |.int k,.int l n=>decide (k=l)&&decide (n=0)
 |.bool,.bool b=>!b
 |.str,.string s=>s.data.toList.isEmpty
 |.sl _ _,.slice none 0 0=>true
 |_,_=>false
def au.Qk:au->List Value->Bool
 |.nil,[]=>true
 |.cons c r,v::vs=>c.isZero v&&r.Qk vs
 |_,_=>false
theorem CT.amc:∀(c:CT)(v:Value),c.isZero v=true->v=c.adE:=by
 intro c v h;unfold CT.isZero at h;split at h
 .simp at h;rw[h.1,h.2];rfl
 .simp at h;subst h;rfl
 .next s=>obtain⟨⟨l⟩⟩:=s;simp at h;subst h;rfl
 .rfl
 .cases h
theorem au.abK:∀(r:au)(vs:List Value),r.Qk vs=true->vs=r.kK
 |.nil,[],_=>rfl
 |.cons c r,v::vs,h=>by
  rw[Qk,auO]at h;rw[au.kK,CT.amc c v h.1,au.abK r vs h.2]
 |.nil,_::_,h|.cons _ _,[],h=>by simp[Qk]at h
def aht:TypeDesc->TypeDesc->Bool
 |.int k,.int l=>decide (k=l)
 |.bool,.bool=>true
 |.string,.string=>true
 |.slice e,.slice f=>Nat.beq e f
 |_,_=>false
theorem amd:∀(c d:TypeDesc),aht c d=true->c=d:=by
 intro c d h;unfold aht at h;split at h
 .rw[av2 h]
 .rfl
 .rfl
 .rw[auR h]
 .cases h
def Me(P:Program):List (Nat×TypeId)->List Field->Bool
 |[],[]=>true
 |(o,t)::r,f::fs=>Nat.beq o f.offset&&Nat.beq t f.type&&(P.info? f.type).isSome&&Me P r fs
 |_,_=>false
theorem Ze{P:Program}:∀(l:List (Nat×TypeId))(fs:List Field),Me P l fs=true->l=fs.map (λf=>(f.offset,f.type))/\∀f∈fs,(P.info? f.type).isSome=true
 |[],[],_=>⟨rfl,by simp⟩
 |(o,t)::r,f::fs,h=>by
  rw[Me,auO,auO,auO]at h;obtain⟨⟨⟨h1,h2⟩,h3⟩,h4⟩:=h;obtain⟨e,hall⟩:=Ze r fs h4;refine⟨by rw[au8,← e,auR h1,auR h2],λg hg=>?_⟩;rcases au3.1 hg with rfl|hg
  .exact h3
  .exact hall g hg
 |[],_::_,h|_::_,[],h=>by simp[Me]at h
def ame(P:Program)(t:TypeId)(ti:TI):Bool:=
 match ti.kind,P.underlying t with
 |.scalar,some d=>match ti.cells.desc with|some c=>aht c d|none=>false
 |.str,some .string=>ti.cells.beq (.cons .str .nil)
 |.slice e,some (.slice f)=>Nat.beq e f&&(match ti.cells with|.cons (.sl g _) .nil=>Nat.beq g e|_=>false)
 |.struct fs,some (.struct zn)=>Me P fs zn.toList
 |_,_=>false
def ajP(ti:TI)(z:Value):Bool:=match ti.kind with
 |.struct _=>true
 |_=>z.oneCell'
def adP(P:Program)(t:TypeId)(ti:TI):Bool:=
 match P.info? t with
 |some i=>match i.zero with
  |some z=>Nat.beq i.size ti.cells.len&&Nat.beq i.bytes ti.bytes&&ti.cells.Qk z.cells.toList&&ajP ti z&&ame P t ti&&Nat.ble ti.bytes 4096&&(!ti.cmp||akB P t ti.cells)
  |none=>false
 |none=>false
theorem lF.ant{P:Program}{t:TypeId}{ti:TI}(h:adP P t ti=true):lF P t ti:=by
 unfold adP at h;split at h
 .next i hi=>
  split at h
  .next z hz=>
   simp only[auO]at h;obtain⟨⟨⟨⟨⟨⟨h1,h2⟩,h3⟩,h4⟩,h5⟩,h6⟩,h7⟩:=h;refine⟨⟨i,z,hi,auR h1,auR h2,hz,au.abK _ _ h3,λhagg=>?_⟩,?_,by simpa[axc]using h6,λe w s u X xs ys vs us b hf hx hy he=>ao9 (by rw[e]at h7;simpa using h7) w s u X xs ys vs us b hf hx hy he⟩
   .unfold ajP at h4;unfold TI.agg at hagg;split at h4
    .next hk=>rw[hk]at hagg;cases hagg
    .exact FT z h4
   .unfold ame at h5;split at h5
    .next d hk hu=>
     rw[hk];split at h5
     .next c hc=>exact⟨d,by rw[hc,amd c d h5],hu⟩
     .cases h5
    .next hk hu=>rw[hk];exact⟨hu,au.eq_of_beq _ _ h5⟩
    .next e f hk hu=>
     rw[hk];rw[auO]at h5;have hef:=auR h5.1;subst hef;refine⟨hu,?_⟩;have h52:=h5.2;split at h52
     .next g r hg=>exact⟨r,by rw[hg,auR h52]⟩
     .cases h52
    .next fs zn hk hu=>rw[hk];obtain⟨e,hall⟩:=Ze _ _ h5;exact⟨zn,hu,e,hall⟩
    .cases h5
  .cases h
 .cases h
def Ql(P:Program):List (Nat×TI)->Bool
 |[]=>true
 |(t,ti)::r=>adP P t ti&&Ql P r
theorem ahu{P:Program}:∀{l:List (Nat×TI)},Ql P l=true->∀t ti,abB l t=some ti->lF P t ti
 |[],_,t,ti,h=>by cases h
 |(i,x)::r,hc,t,ti,h=>by
  rw[Ql,auO]at hc;rw[abB]at h;cases hb:Nat.beq t i with
  |true=>rw[hb]at h;cases h;rw[auR hb];exact .ant hc.1
  |false=>rw[hb]at h;exact ahu hc.2 t ti h
def Ya(fn:Func):Bool:=fn.body.isSome&&!(fn.name== "runtime.NumGoroutine")
theorem jg{P:Program}{f:FuncId}{fn:Func}(hf:P.funcs[f]? =some fn)(hc:Ya fn=true):jh P f:=by
 intro args w;unfold Ya at hc;rw[auO]at hc;have h1:(fn.name== "runtime.NumGoroutine")=false:=by simpa using hc.2
 have h2:fn.body.isNone=false:=by cases hb:fn.body with|none=>rw[hb]at hc;simp at hc|some _=>rfl
 unfold callFunc;simp only[avd,run_program,avG,hf,h1,h2,awe,axb,avQ]
def amf(P:Program)(G:jV)(f:FuncId):Jv->Prop
 |.pure c=>fG P G f c/\jh P f
 |.eff _ c=>jm P G f c/\jh P f
theorem amg{P:Program}{G:jV}{Θ:jo}(hT:∀t ti,Θ t=some ti->lF P t ti):∀{l:List (Nat×Jv)},(∀x∈l,amf P G x.1 x.2)->EnvB P G Θ (Iq l)
 |[],_=>⟨hT,(λf con h=>by cases h),(λf ms con h=>by cases h)⟩
 |(i,c)::r,h=>by
  have ih:=amg (G:=G) hT λx hx=>h x (auZ _ hx);refine⟨hT,λf con hf=>?_,λf ms con hf=>?_⟩
  .rw[Iq]at hf;cases hb:Nat.beq f i with
   |true=>rw[hb]at hf;cases hf;rw[auR hb];exact h (i,.pure con) au0
   |false=>rw[hb]at hf;exact ih.cons f con hf
  .rw[Iq]at hf;cases hb:Nat.beq f i with
   |true=>rw[hb]at hf;cases hf;rw[auR hb];exact h (i,.eff ms con) au0
   |false=>rw[hb]at hf;exact ih.agC f ms con hf
end Go.Fw
namespace Go.Fw
open Go
structure PA where
 n:Nat
 sh:List iH
 bI:List oP
 F:jr sh->Prop×mG bI
structure XA where
 n:Nat
 sh:List iJ
 bI:List qc
 F:jq sh->Prop×(lJ bI×kT sh->Prop)
structure QA where
 n:Nat
 sh:List iJ
 bI:List gY
 F:jq sh->Prop×(lN bI->Prop)
def PA.e(q:PA):Nat×Jv:=(q.n,.pure (iw q.sh q.bI q.F))
def XA.e(q:XA):Nat×Jv:=(q.n,.eff (DX q.sh) (qm q.sh q.bI q.F))
def QA.e(q:QA):Nat×Jv:=(q.n,.eff (DX q.sh) (anr q.sh q.bI q.F))
def abL(P:Program)(G:jV)(x:Nat×Jv):Prop:=amf P G x.1 x.2
def ahv(P:Program)(G:jV):List (Nat×Jv)->Prop
 |[]=>True
 |x::l=>abL P G x/\ahv P G l
theorem anu{P:Program}{G:jV}{l':List (Nat×TI)}(hT:Ql P l'=true){l:List (Nat×Jv)}(h:ahv P G l):EnvB P G (abB l') (Iq l):=
 amg (ahu hT) (by
  induction l with
  |nil=>exactλx hx=>by cases hx
  |cons y l ih=>exact List.forall_mem_cons.2 ⟨h.1,ih h.2⟩)
def adQ:(l:List gY)->(lN l->Prop)->Prop
 |[],p=>p ()
 |c::r,p=>∀x:c.den,adQ r λy=>p (x,y)
theorem Qm:∀{l:List gY}{p:lN l->Prop},adQ l p->∀x,p x
 |[],_,h,()=>h
 |_::_,_,h,(x,y)=>Qm (h x) y
def akV:(l:List (List gY))->(Bj l->Prop)->Prop
 |[],p=>p ()
 |c::r,p=>adQ c λx=>akV r λy=>p (x,y)
theorem ahw:∀{l:List (List gY)}{p:Bj l->Prop},akV l p->∀x,p x
 |[],_,h,()=>h
 |_::_,_,h,(x,y)=>ahw (Qm h x) y
def anv:(s:iH)->(s.den->Prop)->Prop
 |.v (.one c),p=>∀x:c.den,p x
 |.v (.agg l),p=>adQ l p
 |.kp l,p=>adQ l p
 |.fn _ l,p=>akV l p
theorem ajQ:∀{s:iH}{p:s.den->Prop},anv s p->∀x,p x
 |.v (.one _),_,h,x=>h x
 |.v (.agg _),_,h,x=>Qm h x
 |.kp _,_,h,x=>Qm h x
 |.fn _ _,_,h,x=>ahw h x
def akW:(l:List iH)->(jr l->Prop)->Prop
 |[],p=>p ()
 |s::r,p=>anv s λx=>akW r λy=>p (x,y)
theorem ahx:∀{l:List iH}{p:jr l->Prop},akW l p->∀x,p x
 |[],_,h,()=>h
 |_::_,_,h,(x,y)=>ahx (ajQ h x) y
def ap7:(s:iJ)->(s.den->Prop)->Prop
 |.p s,p=>anv s p
 |.own _ r,p=>∀x:List r.den,p x
 |.ptr l,p=>adQ l p
theorem apg:∀{s:iJ}{p:s.den->Prop},ap7 s p->∀x,p x
 |.p _,_,h,x=>ajQ h x
 |.own _ _,_,h,x=>h x
 |.ptr _,_,h,x=>Qm h x
def agG:(l:List iJ)->(jq l->Prop)->Prop
 |[],p=>p ()
 |s::r,p=>ap7 s λx=>agG r λy=>p (x,y)
theorem aad:∀{l:List iJ}{p:jq l->Prop},agG l p->∀x,p x
 |[],_,h,()=>h
 |_::_,_,h,(x,y)=>aad (apg h x) y
abbrev LP{α:Type}(x:α)(f:(α->Prop)->(α->Nat)->α->Prop):Prop:=∃(I:α->Prop),∃(μ:α->Nat),I x/\∀(y:α),I y->f I μ y
abbrev NX{σ α:Type}(s:σ)(I:α->Prop)(μ:α->Nat)(x y:α):Prop:=s=s/\I x/\μ x<μ y
def H0:Hints:=hints [] [] [] [] []
def BF(P:Program)(n:Nat):Func:=match P.funcs[n]? with|some f=>f|none=>default
def IZ(P:Program)(n k:Nat):Bool:=P.funcs[n]?.isSome&&Ya (BF P n)&&Nat.ble k (BF P n).ntmps
theorem Ws{P:Program}{n k:Nat}(h:IZ P n k=true):P.funcs[n]? =some (BF P n)/\(BF P n).body=some (codeOf (BF P n))/\jh P n/\Nat.ble k (BF P n).ntmps=true:=by
 simp only[IZ,auO]at h;obtain⟨⟨h1,h2⟩,h3⟩:=h;have e:P.funcs[n]? =some (BF P n):=by
  unfold BF;cases hf:P.funcs[n]? with
  |some f=>rfl
  |none=>rw[hf]at h1;cases h1
 refine⟨e,?_,jg e h2,h3⟩;have h4:=h2;unfold Ya at h4;rw[auO]at h4;unfold codeOf;cases hb:(BF P n).body with
 |some c=>rfl
 |none=>rw[hb]at h4;cases h4.1
def PA.goal(q:PA)(g:(mG q.bI->Prop)->Prop)(x:jr q.sh):Prop:=Kt q.sh x->(q.F x).1->g λr=>r=(q.F x).2
def XA.goal(q:XA)(g:(lJ q.bI×kT q.sh->Prop)->Prop)(x:jq q.sh):Prop:=Iz q.sh x->(q.F x).1->g (q.F x).2
def QA.goal(q:QA)(g:(lN q.bI->Prop)->Prop)(x:jq q.sh):Prop:=Iz q.sh x->(q.F x).1->g (q.F x).2
variable {P:Program} {Θ:jo} {Γ:kJ} {G:jV}
theorem PA.ok{q:PA}(hm:P.follows .mixedOrders=true)(hE:EnvB P G Θ Γ)(H:Hints){p:Prop}
 (hp:(bif IZ P q.n q.sh.length then akW q.sh λx=>q.goal (λK=>F7 Θ Γ H (codeOf (BF P q.n)) (abC Θ (BF P q.n).results.toList q.bI K) (entry (BF P q.n).ntmps (vw q.sh x))) x else False)=p) (h:p):abL P G q.e:=by
 subst hp;cases hc:IZ P q.n q.sh.length with
 |false=>rw[hc]at h;exact h.elim
 |true=>rw[hc]at h;obtain⟨h1,h2,h3,h4⟩:=Ws hc;exact⟨adK hE hm h1 h2 H h4 λx hi hx=>ahx h x hi hx,h3⟩
theorem XA.ok{q:XA}(hm:P.follows .mixedOrders=true)(hE:EnvB P G Θ Γ)(H:Hints)(hne:∀x,(q.F x).1->∃t,(q.F x).2 t){p:Prop}
 (hp:(bif IZ P q.n q.sh.length then agG q.sh λx=>q.goal (λK=>F7 Θ Γ H (codeOf (BF P q.n)) (agE Θ (BF P q.n).results.toList q.sh q.bI K) (D9 (BF P q.n).ntmps (tu q.sh x))) x else False)=p) (h:p):abL P G q.e:=by
 subst hp;cases hc:IZ P q.n q.sh.length with
 |false=>rw[hc]at h;exact h.elim
 |true=>rw[hc]at h;obtain⟨h1,h2,h3,h4⟩:=Ws hc;exact⟨adO hE hm h1 h2 H h4 hne λx hi hx=>aad h x hi hx,h3⟩
theorem QA.ok{q:QA}(hm:P.follows .mixedOrders=true)(hE:EnvB P G Θ Γ)(H:Hints)(hne:∀x,(q.F x).1->∃t,(q.F x).2 t){p:Prop}
 (hp:(bif IZ P q.n q.sh.length then agG q.sh λx=>q.goal (λK=>F7 Θ Γ H (codeOf (BF P q.n)) (agF (BF P q.n).results.toList q.bI K) (D9 (BF P q.n).ntmps (tu q.sh x))) x else False)=p) (h:p):abL P G q.e:=by
 subst hp;cases hc:IZ P q.n q.sh.length with
 |false=>rw[hc]at h;exact h.elim
 |true=>rw[hc]at h;obtain⟨h1,h2,h3,h4⟩:=Ws hc;exact⟨apf hE hm h1 h2 H h4 hne λx hi hx=>aad h x hi hx,h3⟩
end Go.Fw
namespace Go.Fw
open Go
variable {P:Program} {G:jV} {f:FuncId}
abbrev jO:List UInt8:=[]
theorem fG.weaken{con Wu:EW}(h:fG P G f con)(hc:∀args p out,Wu args=some (p,out)->p->∃q,con args=some (q,out)/\q):fG P G f Wu:=by intro args p out k S vs w hcon hp hG hrep;obtain⟨q,h1,h2⟩:=hc args p out hcon hp;exact h args q out k S vs w h1 h2 hG hrep
theorem jm.weaken{con Wu:Dx}(h:jm P G f con)(hc:∀args p ρ,Wu args=some (p,ρ)->p->∃q,con args=some (q,ρ)/\q):jm P G f Wu:=by intro args p ρ hcon hp;obtain⟨q,h1,h2⟩:=hc args p ρ hcon hp;exact h args q ρ h1 h2
theorem amh{sh:List iH}{bI:List oP}{F:jr sh->Prop×mG bI}(Fr Fs:Nat->jr sh->Prop×mG bI)(h0:∀x,¬(Fr 0 x).1)(hs:∀n x,Fr (n+1) x=Fs n x)
 (hf:∀x,(F x).1->∃n,(Fr n x).1) (he:∀n x,(Fr n x).2=(F x).2) (step:∀n,fG P G f (iw sh bI (Fr n))->fG P G f (iw sh bI (Fs n))):fG P G f (iw sh bI F):=by
 have all:∀n,fG P G f (iw sh bI (Fr n)):=by
  intro n
  induction n with
  |zero=>
   intro args p out k S vs w hcon hp;unfold iw xK at hcon;split at hcon
   .next x _=>have e:(Fr 0 x).1=p:=congrArg Prod.fst (Option.some.inj hcon);exact absurd (e.symm▸hp) (h0 x)
   .cases hcon
  |succ n ih=>have:=step n ih;have e:Fr (n+1)=Fs n:=funext (hs n);rw[e];exact this
 intro args p out k S vs w hcon hp hG hrep;have Ky:=hcon;unfold iw xK at Ky;split at Ky
 .next x hx=>have e:=Option.some.inj Ky;have e1:(F x).1=p:=congrArg Prod.fst e;obtain⟨n,hn⟩:=hf x (e1.symm▸hp);refine all n args (Fr n x).1 out k S vs w ?_ hn hG hrep;unfold iw xK;rw[hx];show some ((Fr n x).1,_)=_;rw[he n x];exact congrArg (λz=>some ((Fr n x).1,z)) (congrArg Prod.snd e)
 .cases Ky
theorem ajR{sh:List iJ}{bI:List qc}{F:jq sh->Prop×(lJ bI×kT sh->Prop)}(Fr Fs:Nat->jq sh->Prop×(lJ bI×kT sh->Prop))(h0:∀x,¬(Fr 0 x).1)(hs:∀n x,Fr (n+1) x=Fs n x)
 (hf:∀x,(F x).1->∃n,(Fr n x).1) (he:∀n x,(Fr n x).2=(F x).2) (step:∀n,jm P G f (qm sh bI (Fr n))->jm P G f (qm sh bI (Fs n))):jm P G f (qm sh bI F):=by
 have all:∀n,jm P G f (qm sh bI (Fr n)):=by
  intro n
  induction n with
  |zero=>
   intro args p ρ hcon hp;unfold qm at hcon;split at hcon
   .next x _=>have e:(Fr 0 x).1=p:=congrArg Prod.fst (Option.some.inj hcon);exact absurd (e.symm▸hp) (h0 x)
   .cases hcon
  |succ n ih=>have:=step n ih;have e:Fr (n+1)=Fs n:=funext (hs n);rw[e];exact this
 intro args p ρ hcon hp;have Ky:=hcon;unfold qm at Ky;split at Ky
 .next x hx=>have e:=Option.some.inj Ky;have e1:(F x).1=p:=congrArg Prod.fst e;obtain⟨n,hn⟩:=hf x (e1.symm▸hp);refine all n args (Fr n x).1 ρ ?_ hn;unfold qm;rw[hx];show some ((Fr n x).1,_)=_;rw[he n x];exact congrArg (λz=>some ((Fr n x).1,z)) (congrArg Prod.snd e)
 .cases Ky
end Go.Fw
namespace Go.Fw
open Go
variable {P:Program} {H:Type} {enc:TypeId×Value->H} {w:World}
def au.app:au->au->au
 |.nil,s=>s
 |.cons c r,s=>.cons c (r.app s)
def agH:(r s:au)->r.den->s.den->(r.app s).den
 |.nil,_,_,y=>y
 |.cons _ r,s,x,y=>(x.1,agH r s x.2 y)
theorem aI.app{h:Array Obj}{S:Nat->Prop}:∀(r s:au)(x:r.den)(y:s.den)(vs us:List Value),aI h S r vs x->aI h S s us y->aI h S (r.app s) (vs++us) (agH r s x y)
 |.nil,s,x,y,vs,us,h1,h2=>by rw[aI]at h1;subst h1;exact h2
 |.cons c r,s,(x,x'),y,vs,us,h1,h2=>by rw[aI]at h1;obtain⟨v,vs',rfl,g1,g2⟩:=h1;show aI h S (.cons c (r.app s)) (v::(vs'++us)) (x,agH r s x' y);rw[aI];exact⟨v,vs'++us,rfl,g1,aI.app r s x' y vs' us g2 h2⟩
theorem add_add(a:Addr)(h:a.spot=none)(m j:Nat):(a.add m).add j=⟨a.block,a.off+m+j,none⟩:=by
 obtain⟨b,o,sp⟩:=a;simp only at h;subst h;unfold Addr.add;by_cases hm:m=0
 .by_cases hj:j=0
  .simp[hm,hj]
  .simp[hm,hj]
 .by_cases hj:j=0
  .simp[hm,hj]
  .simp[hm,hj]
def Oi(f:TypeId->Option au):List Field->Nat->Option au
 |[],_=>some .nil
 |x::r,off=>match f x.type with
  |some s=>match Oi f r (off+s.len),Nat.beq x.offset off with
   |some u,true=>some (s.app u)
   |_,_=>none
  |none=>none
def rowOf(P:Program):Nat->TypeId->Option au
 |0,_=>none
 |n+1,t=>match P.underlying t with
  |some (.int k)=>some (.cons (.int k) .nil)
  |some .bool=>some (.cons .bool .nil)
  |some .string=>some (.cons .str .nil)
  |some (.slice e)=>match rowOf P n e with
   |some s=>match Nat.beq s.len (P.cellsOf e)&&Nat.ble 1 s.len with
    |true=>some (.cons (.sl e s) .nil)
    |false=>none
   |none=>none
  |some (.struct fs)=>match Oi (rowOf P n) fs.toList 0 with
   |some r=>match Nat.beq r.len (P.cellsOf t)with
    |true=>match fs.toList.all λf=>match rowOf P n f.type with|some s=>Nat.beq s.len (P.cellsOf f.type)|none=>false with
     |true=>some r
     |false=>none
    |false=>none
   |none=>none
  |_=>none
theorem ajS{α:Type}{Q:Nat->α->Prop}:∀(n:Nat),(∀i,i<n->∃x,Q i x)->∃l:List α,l.length=n/\∀i x,l[i]? =some x->Q i x
 |0,_=>⟨[],rfl,λi x h=>by simp at h⟩
 |n+1,h=>by
  obtain⟨l,hl,hq⟩:=ajS n λi hi=>h i (by omega);obtain⟨x,hx⟩:=h n (by omega);refine⟨l++[x],by simp[hl],λi y hy=>?_⟩;rcases avb i n with hi|hi
  .rw[avA (by omega)]at hy;exact hq i y hy
  .rw[avq (by omega)]at hy;have:i=n:=by
    rcases avb n i with h'|h'
    .rw[avP (by simp;omega)]at hy;cases hy
    .omega
   subst this;simp[hl]at hy;rw[← hy];exact hx
theorem ajT:∀(r s:au),(r.app s).len=r.len+s.len
 |.nil,s=>by simp[au.app,au.len]
 |.cons c r,s=>by simp only[au.app,au.len,ajT r s];omega
theorem abM{f:TypeId->Option au}{S:Nat->Prop}{h:Array Obj}(cs:List Value)
 (part:∀(t:TypeId)(r:au)(off:Nat),f t=some r->(∃g:Field,g.type=t/\g.offset=off)->True):∀(fs:List Field)(off:Nat)(r:au),Oi f fs off=some r->
 (∀g∈fs,∀s,f g.type=some s->∃x,aI h S s ((cs.drop g.offset).take s.len) x)->
 ∃x,aI h S r ((cs.drop off).take r.len) x
 |[],off,r,hr,_=>by
  cases hr;exact⟨(),by rw[aI];simp[au.len]⟩
 |g::fs,off,r,hr,hall=>by
  rw[Oi]at hr;split at hr
  .next s hs=>
   split at hr
   .next u hu hb=>
    cases hr;obtain⟨x,hx⟩:=hall g au0 s hs;rw[auR hb]at hx;obtain⟨y,hy⟩:=abM cs part fs (off+s.len) u hu λg' hg'=>hall g' (auZ _ hg');refine⟨agH s u x y,?_⟩;have:=aI.app s u x y _ _ hx hy;rw[ajT];have e:(cs.drop off).take (s.len+u.len)=(cs.drop off).take s.len++(cs.drop (off+s.len)).take u.len:=by rw[List.take_add,awo]
    rw[e];exact this
   .cases hr
  .cases hr
theorem aae:∀(n:Nat)(t:TypeId)(r:au),rowOf P n t=some r->∀(m:Nat)(base:Nat)(spare:Nat->Bool)(held:Bool)(cs:List Value)(x:DataW H×List MemPlace),
 DataW.trod enc P w base spare held m t cs=some x->∃y,aI w.heap (λb=>b<w.heap.size) r cs y
 |0,t,r,hr=>by cases hr
 |n+1,t,r,hr=>by
  intro m base spare held cs x hx;rw[rowOf]at hr;split at hr
  .next k hu=>cases hr;obtain⟨i,rfl,_,hwf⟩:=DataW.trod_int hu hx;simp only[Lit.wf,auO,au1]at hwf;exact⟨(i,()),by rw[aI];exact⟨_,[],rfl,by rw[dh];exact⟨rfl,hwf⟩,by rw[aI]⟩⟩
  .next hu=>cases hr;obtain⟨b,rfl,_⟩:=DataW.trod_bool hu hx;exact⟨(b,()),by rw[aI];exact⟨_,[],rfl,by rw[dh],by rw[aI]⟩⟩
  .next hu=>cases hr;obtain⟨s,rfl,_,hs⟩:=DataW.trod_string hu hx;refine⟨(s.data.toList,()),by rw[aI];exact⟨_,[],rfl,by rw[dh];exact⟨by simp,by simpa using hs⟩,by rw[aI]⟩⟩
  .next e hu=>
   split at hr
   .next s hs=>
    split at hr
    .next hb=>
     cases hr;rw[auO]at hb;have hlen:=auR hb.1;have hpos:1<=s.len:=by simpa[axc]using hb.2
     rcases DataW.trod_slice hu hx with⟨rfl,_⟩|⟨a,len,cap,elems,rest,k,_,rfl,_,hbase,hle,hmax,hel,hrow,_,_⟩
     .exact⟨([],()),by rw[aI];exact⟨_,[],rfl,by rw[dh];exact⟨by simp,.inl ⟨rfl,none,0,rfl⟩⟩,by rw[aI]⟩⟩
     .by_cases h0:len=0
      .subst h0;exact⟨([],()),by rw[aI];exact⟨_,[],rfl,by rw[dh];exact⟨by simp,.inl ⟨rfl,some a,cap,rfl⟩⟩,by rw[aI]⟩⟩
      .have each:∀i,i<len->∃(ys:List Value)(z:s.den),w.cells? base (a.add (i*P.cellsOf e)) (P.cellsOf e)=some ys/\aI w.heap (λb=>b<w.heap.size) s ys z:=by intro i hi;have h1:=hrow i hi;rw[auX (by omega)]at h1;obtain⟨ys,hys,hy2⟩:=Option.bind_eq_some_iff.1 h1;obtain⟨z,hz⟩:=aae n e s hs k base spare held ys _ hy2;exact⟨ys,z,hys,hz⟩
       obtain⟨ys0,z0,hc0,hz0⟩:=each 0 (by omega);obtain⟨_,hl0,hcell0⟩:=World.cells?_some hc0;have aaf:=hcell0 0 (by omega);simp only[awZ,Addr.add,if_true]at aaf;have ast:∃v,ys0[0]? =some v:=⟨ys0[0]'(by omega),by simp[show 0<ys0.length by omega]⟩;obtain⟨v0,hv0⟩:=ast;rw[hv0]at aaf;unfold World.cell? at aaf;split at aaf
       .next c ty fz hblk=>
        split at aaf
        .cases aaf
        .next hsp=>
         have hspot:a.spot=none:=by cases h:a.spot with|none=>rfl|some q=>rw[h]at hsp;simp at hsp
         have ha:a=⟨a.block,a.off,none⟩:=by cases a;simp at hspot;rw[hspot]
         have hb':a.block<w.heap.size:=by obtain⟨hlt,_⟩:=auV.1 hblk;exact hlt
         have rows:∀i,i<len->∃z:s.den,aI w.heap (λb=>b<w.heap.size) s ((c.toList.drop (a.off+i*s.len)).take s.len) z:=by
          intro i hi;obtain⟨ys,z,hcs,hz⟩:=each i hi;obtain⟨_,hl,hcell⟩:=World.cells?_some hcs;refine⟨z,?_⟩;have:(c.toList.drop (a.off+i*s.len)).take s.len=ys:=by
           refine awI λj=>?_;rcases avb j s.len with hj|hj
           .rw[awc hj,avs];have h2:=hcell j (by omega);have hadd:=add_add a hspot (i*P.cellsOf e) j;rw[← hlen]at hadd h2;rw[hadd]at h2;unfold World.cell? at h2;simp only[hblk,Option.isSome_none,awe,axb]at h2;rw[← h2];simp
           .rw[avP (by simp;omega),avP (by omega)]
          rw[this];exact hz
         obtain⟨l,hll,hlq⟩:=ajS len rows;refine⟨(l,()),by rw[aI];exact⟨_,[],rfl,by rw[dh];exact⟨by omega,.inr ⟨a.block,a.off,cap,c,ty,fz,by rw[hll,← ha],by omega,hb',hblk,hlq⟩⟩,by rw[aI]⟩⟩
       .cases aaf
    .cases hr
   .cases hr
  .next fs hu=>
   split at hr
   .next r' hf=>
    split at hr
    .next hb=>
     split at hr
     .next hall=>
      cases hr;obtain⟨xs,k,_,_,hcl,hxl,hparts⟩:=DataW.trod_struct hu hx;have hlen:=auR hb;have:=abM (h:=w.heap) (S:=λb=>b<w.heap.size) cs (λ_ _ _ _ _=>trivial) fs.toList 0 _ hf ?_
      .obtain⟨y,hy⟩:=this;refine⟨y,?_⟩;rw[awL,avy (by omega)]at hy;exact hy
      .intro g hg s hs;have hg2:=au9.1 hall g hg;rw[hs]at hg2;have hsl:=auR hg2;obtain⟨i,hi,hgi⟩:=awF.1 hg;have hp:=hparts i g (by rw[← hgi];simp[show i<fs.size by simpa using hi]);rw[auX (by simp at hi;omega)]at hp;rw[hsl];exact aae n g.type s hs k base spare held _ _ hp
     .cases hr
    .cases hr
   .cases hr
  .cases hr
def CT.csh:CT->gY
 |.int k=>.int k
 |.bool=>.bool
 |.str=>.str
 |.sl e r=>.sl e r false
def toC:(c:CT)->c.den->c.csh.den
 |.int _,x=>x
 |.bool,x=>x
 |.str,x=>x
 |.sl _ _,x=>x
def au.shs:au->List gY
 |.nil=>[]
 |.cons c r=>c.csh::r.shs
def toCs:(r:au)->r.den->lN r.shs
 |.nil,_=>()
 |.cons c r,x=>(toC c x.1,toCs r x.2)
theorem adR(X:V):∀(r:au)(vs:List Value)(x:r.den),aI X.w.heap (X.cO false) r vs x->ai X (iD r.shs (toCs r x)) vs
 |.nil,vs,x,h=>by rw[aI]at h;subst h;trivial
 |.cons c r,vs,(x,y),h=>by
  rw[aI]at h;obtain⟨v,vs',rfl,h1,h2⟩:=h;refine⟨?_,adR X r vs' y h2⟩;cases c with
  |int k=>exact h1
  |bool=>exact h1
  |str=>exact h1
  |sl e r=>exact h1
def akX(P:Program)(t:TypeId):Option oP:=
 match rowOf P 64 t with
 |some r=>match P.underlying t with
  |some (.struct _)=>some (.agg r.shs)
  |some (.array _ _)=>none
  |_=>match r with
   |.cons c .nil=>some (.one c.csh)
   |_=>none
 |none=>none
def MB(P:Program):List TypeId->Option (List iH)
 |[]=>some []
 |t::ts=>match akX P t,MB P ts with
  |some s,some l=>some (.v s::l)
  |_,_=>none
def start(w:World):V:=⟨w,w.heap.size,λb=>b<w.heap.size,λ_=>undef,λ_=>none⟩
theorem aph{t:TypeId}{s:oP}(hs:akX P t=some s){base base':Nat}{sp:Nat->Bool}{hd:Bool}{v:Value}{d:DataW H}{p:List MemPlace}
 (ht:DataW.Trod enc P w base sp hd t v d p) (hv:Value.okWide P w .any base' t v):∃x:s.den,dL (start w) (s.val x) v:=by
 unfold akX at hs;split at hs
 .next r hr=>
  obtain⟨m,hm⟩:=ht;obtain⟨y,hy⟩:=aae 64 t r hr m base sp hd _ _ hm;have hy':aI (start w).w.heap ((start w).cO false) r v.cells.toList y:=
   aI.mono (λb hb=>⟨⟨⟨hb,λ_=>hb,λo x hx=>by cases hx⟩,λe=>by cases e⟩,rfl⟩) r _ y hy
  unfold Value.okWide at hv;split at hs
  .next fs hu=>cases hs;rw[hu]at hv;obtain⟨cs,rfl,_,_⟩:=hv;exact⟨toCs r y,cs,rfl,adR (start w) r _ y hy'⟩
  .cases hs
  .next hns hna=>
   split at hs
   .next c=>
    cases hs;have hcell:v.cells=#[v]:=by
     cases hv2:v<;>first
      |rfl
      |(exfalso
        rw[hv2]at hv;split at hv
        .next hu=>exact hns _ hu
        .next hu=>exact hna _ _ hu
        .unfold Go.Cell.okWide at hv;split at hv<;>first|(rename_i h1 h2;cases h2;done)|(rename_i h2;cases h2;done)|skip;unfold Go.Cell.ok at hv;split at hv<;>first|(rename_i h1 h2;cases h2;done)|exact hv)
    have:=adR (start w) _ _ y hy';rw[hcell]at this;exact⟨toC c y.1,this.1⟩
   .cases hs
 .cases hs
theorem ahy:∀(ts:List TypeId)(sh:List iH),MB P ts=some sh->∀{base base':Nat}{sp:Nat->Bool}{hd:Bool}(vs:List Value)(ds:List (DataW H))(p:List MemPlace),
 DataW.TrodAll enc P w base sp hd ts vs ds p->(∀(j:Nat) t v,ts[j]? =some t->vs[j]? =some v->Value.okWide P w .any base' t v)->∃x:jr sh,oH (start w) (vw sh x) vs
 |[],sh,hs,_,_,_,_,vs,ds,p,h,_=>by
  cases hs;cases vs with
  |nil=>exact⟨(),trivial⟩
  |cons v vs=>cases ds<;>simp[DataW.TrodAll]at h
 |t::ts,sh,hs,base,base',sp,hd,vs,ds,p,h,hok=>by
  rw[MB]at hs;split at hs
  .next s l h1 h2=>
   cases hs;cases vs with
   |nil=>cases ds<;>simp[DataW.TrodAll]at h
   |cons v vs=>
    cases ds with
    |nil=>simp[DataW.TrodAll]at h
    |cons d ds=>obtain⟨a,b,g1,g2,_⟩:=h;obtain⟨x,hx⟩:=aph h1 g1 (hok 0 t v rfl rfl);obtain⟨y,hy⟩:=ahy ts l h2 vs ds b g2 λj t' v' ht' hv'=>hok (j+1) t' v' (by simpa using ht') (by simpa using hv');exact⟨(x,y),hx,hy⟩
  .cases hs
mutual
theorem CT.H6:∀(c:CT),c.beq c=true
 |.int k=>by simp[CT.beq]
 |.bool=>rfl
 |.str=>rfl
 |.sl e r=>by simp[CT.beq,au.H6 r]
theorem au.H6:∀(r:au),r.beq r=true
 |.nil=>rfl
 |.cons c r=>by simp[au.beq,CT.H6 c,au.H6 r]
end
theorem aff:∀(c:gY)(x:c.den),c.read (c.cell x)=some x
 |.int k,x=>by simp[gY.cell,gY.read]
 |.bool,x=>rfl
 |.str,x=>rfl
 |.sl e r fr,l=>by
  simp only[gY.cell,gY.read,avE];have h1:L9 fr fr=true:=by cases fr<;>rfl
  have h2:r.beq r=true:=au.H6 r;rw[h1];simp only[Bool.and_self];rw[dif_pos h2];rfl
 |.nil,x=>rfl
 |.ref o,x=>by simp[gY.cell,gY.read]
 |.junk,x=>rfl
theorem abN:∀(l:List gY)(x:lN l),jR l (iD l x)=some x
 |[],_=>rfl
 |c::r,x=>by rw[iD,jR,aff c x.1,abN r x.2]
theorem ahz:∀(ts:List TypeId)(l:List iH),MB P ts=some l->∀(x:jr l),F8 l (vw l x)=some x
 |[],l,h,x=>by cases h;rfl
 |t::ts,l,h,x=>by
  rw[MB]at h;split at h
  .next s r h1 h2=>
   cases h;have ih:=ahz ts r h2 x.2;cases s with
   |one c=>
    have e:(iH.v (.one c)).read ((iH.v (.one c)).val x.1)=some x.1:=aff c x.1;rw[vw,F8,ih,e]
   |agg l=>have e:(iH.v (.agg l)).read ((iH.v (.agg l)).val x.1)=some x.1:=abN l x.1;rw[vw,F8,ih,e]
  .cases h
def adS:Out:=⟨[(false,[.plain (.bool true)])],none⟩
theorem ami{G:jV}{f:FuncId}{fn:Func}{sh:List iH}{F:jr sh->Prop×Out}(hcon:fG P G f (xK sh F))(hsh:MB P fn.params.toList=some sh)
 (hF:∀x,Kt sh x->(F x).1/\(F x).2=adS) (hG:G.ok w) {base base':Nat} {sp:Nat->Bool} {hd:Bool} {args:Array Value} {ds:List (DataW H)} {p:List MemPlace}
 (hA:DataW.TrodAll enc P w base sp hd fn.params.toList args.toList ds p) (hok:∀(j:Nat) t v,fn.params[j]? =some t->args[j]? =some v->Value.okWide P w .any base' t v):
 Calls P f args w λe w'=>e=.returned (.bool true)/\w'.os=w.os/\w'.output=w.output/\w.heap.size<=w'.heap.size/\∀b,b<w.heap.size->w'.heap[b]? =w.heap[b]? :=by
 obtain⟨x,hx⟩:=ahy _ _ hsh _ _ _ hA λj t v ht hv=>hok j t v (by simpa using ht) (by simpa using hv);have hin:=CO sh x _ hx;obtain⟨hp,ho⟩:=hF x hin;have hc:xK sh F (vw sh x)=some ((F x).1,adS):=by unfold xK;rw[ahz _ _ hsh x];simp only[← ho]
 refine(hcon (vw sh x) _ _ 0 _ args w hc hp hG hx).mono ?_;rintro e w' ⟨v,vals,rfl,h1,h2,h3,h4,h5,h6,_,_⟩;have hv:v=.bool true:=h6;exact⟨by rw[hv],h1,h3,h4,h5⟩
theorem anw{w w':World}(h1:w'.os=w.os)(h3:w'.output=w.output)(h5:∀b,b<w.heap.size->w'.heap[b]? =w.heap[b]?)(may:MemPlace->Prop):w.keptBut w' may:=by
 refine⟨h1,h3,λi hi=>?_⟩;rw[h5 i hi];cases hw:w.heap[i]? with
 |none=>trivial
 |some o=>cases o<;>simp
theorem anx{w w':World}(h5:∀b,b<w.heap.size->w'.heap[b]? =w.heap[b]?){p:MemPlace}(hp:p.block<w.heap.size):w.sameAt w' p:=by
 cases p with
 |cell b off=>
  show w'.cell? _=w.cell? _;unfold World.cell?;simp only;rw[h5 b hp]
 |map b=>exact h5 b hp
end Go.Fw
namespace Go.Fw
open Go
variable {P:Program} {G:jV} {f:FuncId}
theorem ai9{args:List Arg}{i:Nat}{x:Arg}{p:Nat}(hp:p / 64≠i):dD (args.set i x) p=dD args p:=by unfold dD;rw[avL (λh=>hp h.symm)]
theorem Wv{args:List Arg}{i:Nat}{e:TypeId}{r:au}{l:List r.den}(hi:i<args.length)(p:Nat)(hp:p / 64=i):dD (args.set i (.own e r l)) p=if p=i*64+49 then some (.arr e r l false)else none:=by
 unfold dD;rw[hp,av5 hi];by_cases h:p=i*64+49
 .subst h;have:Nat.beq ((i*64+49)%64) 49=true:=by
   have:(i*64+49)%64=49:=by omega
   rw[this];rfl
  simp[this]
 .have:Nat.beq (p%64) 49=false:=by
   cases hb:Nat.beq (p%64) 49 with
   |false=>rfl
   |true=>have:=auR hb;omega
  simp[this,h]
theorem ajU{args:List Arg}{i:Nat}{v:SV}(ha:args[i]? =some (.sv v))(p:Nat)(hp:p / 64=i):dD args p=none:=by unfold dD;rw[hp,ha]
def MC(γ:Nat->Value)(i:Nat)(o:Nat):Value:=if o=i*64+49 then .slice none 0 0 else γ o
theorem oG.mono{X Y:V}(h:X.le Y):∀(a:Arg)(v:Value),oG X a v->oG Y a v
 |.sv x,v,H=>dL.mono h x v H
 |.kp cs,v,H=>aQ.mono h (.eX cs 0) v H
 |.fn f caps,v,H=>aQ.mono h (.fn f caps) v H
 |.own _ _ _,_,H|.ptr _,_,H=>H.elim
theorem LW.mono{X Y:V}(h:X.le Y)(i:Nat):∀(a:Arg)(v:Value),LW X i a v->LW Y i a v
 |.own _ _ _,v,H=>aO.mono h (.ref (i*64+49)) v H
 |.ptr _,v,H=>aQ.mono h (.bV (i*64+48) 0) v H
 |.sv x,v,H=>oG.mono h (.sv x) v H
 |.kp cs,v,H=>oG.mono h (.kp cs) v H
 |.fn f caps,v,H=>oG.mono h (.fn f caps) v H
theorem xJ.nil{X Y:V}(h:X.le Y){e:TypeId}{r:au}:∀(args:List Arg)(vs:List Value)(j i:Nat),args[i]? =some (.sv (.one .nil))->
 Y.ah ((j+i)*64+49)=some (.arr e r [] false)->Y.γ ((j+i)*64+49)=.slice none 0 0->xJ X j args vs->xJ Y j (args.set i (.own e r [])) vs
 |[],[],_,i,ha,_,_,_=>by simp at ha
 |[],_::_,_,_,_,_,_,H=>H.elim
 |_::_,[],_,_,_,_,_,H=>H.elim
 |a::args,v::vs,j,0,ha,ho,hγ,⟨h1,h2⟩=>by
  have ha:a=.sv (.one .nil):=by simpa using ha
  subst ha;have hv:v=.slice none 0 0:=h1;refine⟨⟨⟨e,r,[],false,ho⟩,?_,by rw[hv];rfl⟩,?_⟩
  .rw[hv];exact hγ.symm
  .show xJ Y (j+1) args vs;clear h1 ha ho hγ hv;generalize j+1=k at h2
   induction args generalizing k vs with
   |nil=>cases vs with
    |nil=>trivial
    |cons _ _=>exact h2.elim
   |cons b args ih=>cases vs with
    |nil=>exact h2.elim
    |cons u vs=>exact⟨LW.mono h k b u h2.1,ih vs (k+1) h2.2⟩
 |a::args,v::vs,j,i+1,ha,ho,hγ,⟨h1,h2⟩=>by
  have e1:j+(i+1)=j+1+i:=by omega
  rw[e1]at ho hγ;exact⟨LW.mono h j a v h1,xJ.nil h args vs (j+1) i (by simpa using ha) ho hγ h2⟩
theorem jm.ap9{con Wu:Dx}(i:Nat)(e:TypeId)(r:au)(hr:0<r.len)(h:jm P G f con)
 (hc:∀args p ρ,Wu args=some (p,ρ)->p->args[i]? =some (.sv (.one .nil))/\(∀t,mr (ρ.aG t) (i*64+49)=none)/\∃q,con (args.set i (.own e r []))=some (q,ρ)/\q):jm P G f Wu:=by
 intro args p ρ hcon hp;obtain⟨ha,hF,q,hq1,hq⟩:=hc args p ρ hcon hp;have hlen:i<args.length:=by have:=au5.1 ha;exact this.1
 obtain⟨hex,hcall⟩:=h _ q ρ hq1 hq;refine⟨hex,λk S γ vs w hG hrep pJ hsep hfree=>?_⟩;have hO:∀o,o≠i*64+49->dD (args.set i (.own e r [])) o=dD args o:=by
  intro o ho;by_cases hd:o / 64=i
  .rw[Wv hlen o hd,ajU ha o hd,if_neg ho]
  .exact ai9 hd
 have hN:dD (args.set i (.own e r [])) (i*64+49)=some (.arr e r [] false):=by rw[Wv hlen _ (by omega),if_pos rfl]
 have hN':dD args (i*64+49)=none:=ajU ha _ (by omega);have hγN:MC γ i (i*64+49)=.slice none 0 0:=if_pos rfl;have hγ:∀o,o≠i*64+49->MC γ i o=γ o:=λo ho=>if_neg ho;have hne:∀o x,dD args o=some x->o≠i*64+49:=λo x ho e=>by rw[e,hN']at ho;cases ho
 have le:V.le ⟨w,w.heap.size,S,γ,dD args⟩ ⟨w,w.heap.size,S,MC γ i,dD (args.set i (.own e r []))⟩:=by
  refine⟨auT _,λb hb=>⟨⟨hb.1,hb.2.1,λo x hx=>?_⟩,rfl⟩,λo cs hx=>⟨⟨cs,?_⟩,hγ o (hne o _ hx)⟩,λo e r l fr hx=>⟨⟨l,fr,?_⟩,hγ o (hne o _ hx)⟩⟩
  .by_cases ho:o=i*64+49
   .show blk (MC γ i o)≠some b;rw[ho,hγN];intro hh;cases hh
   .show blk (MC γ i o)≠some b;rw[hγ o ho];exact hb.2.2 o x ((hO o ho).symm.trans hx)
  .exact(hO o (hne o _ hx)).trans hx
  .exact(hO o (hne o _ hx)).trans hx
 have hbl:∀b,vg (dD (args.set i (.own e r []))) (MC γ i) b↔vg (dD args) γ b:=by
  intro b;constructor
  .rintro⟨o,x,h1,h2⟩;by_cases ho:o=i*64+49
   .rw[ho,hγN]at h2;cases h2
   .exact⟨o,x,(hO o ho)▸h1,(hγ o ho)▸h2⟩
  .rintro⟨o,x,h1,h2⟩;exact⟨o,x,(hO o (hne o x h1)).trans h1,by rw[hγ o (hne o x h1)];exact h2⟩
 refine avk (hcall k S (MC γ i) vs w hG (xJ.nil (Y:=⟨w,w.heap.size,S,MC γ i,dD (args.set i (.own e r []))⟩) le args vs.toList 0 i ha (by rw[avm];exact hN) (by rw[avm];exact hγN) hrep) ?_ ?_ hfree) ?_
 .intro o x hx;by_cases ho:o=i*64+49
  .subst ho;rw[hN]at hx;cases hx;refine⟨⟨[],?_,hr,λb hb=>?_,λj x hj=>by simp at hj⟩,λb hb=>?_⟩
   .show w.ownsRow 0 e r.len (MC γ i (i*64+49)) 0 [];rw[hγN];exact awV w 0 e r.len
   .have hb:blk (MC γ i (i*64+49))=some b:=hb;rw[hγN]at hb;cases hb
   .rw[hγN]at hb;cases hb
  .have hx':dD args o=some x:=(hO o ho)▸hx;have:=pJ o x hx';refine⟨bC.mono le o x (λb _=>rfl) (hγ o ho) this.1,λb hb=>this.2 b ((hγ o ho)▸hb)⟩
 .intro o x q y b hx hy hoq hb;by_cases ho:o=i*64+49
  .rw[ho,hγN]at hb;cases hb
  by_cases hq':q=i*64+49
  .rw[hq',hγN];intro hh;cases hh
  rw[hγ o ho]at hb;rw[hγ q hq'];exact hsep o x q y b ((hO o ho)▸hx) ((hO q hq')▸hy) hoq hb
 .rintro en w' ⟨t,ht,v,γ',h1,h2,h3,h4,h5,h6,h7,h8,h9,h10⟩;have akY:∀o x,mr (ρ.aG t) o=some x->o≠i*64+49:=λo x ho e=>by rw[e,hF t]at ho;cases ho
  have hL:qy S (args.set i (.own e r [])) (ρ.aG t) (MC γ i)=qy S args (ρ.aG t) γ:=by
   funext b
   apply propext;constructor
   .rintro⟨a1,a2⟩;refine⟨a1.imp_right (hbl b).1,λq y hy=>?_⟩;have:=a2 q y hy
    rwa [hγ q (akY q y hy)]at this
   .rintro⟨a1,a2⟩;refine⟨a1.imp_right (hbl b).2,λq y hy=>?_⟩;rw[hγ q (akY q y hy)];exact a2 q y hy
  rw[hL]at h7 h8 h10;refine⟨t,ht,v,γ',h1,h2,h3,h4,h5,λb hb hn=>h6 b hb (λh=>hn ((hbl b).1 h)),h7,λo x hx=>?_,h9,λo x hx=>?_⟩
  .obtain⟨a1,a2⟩:=h8 o x hx;refine⟨a1,λb hb=>?_⟩;obtain⟨b1,b2,b3⟩:=a2 b hb;refine⟨b1,b2.imp_right (hbl b).1,λq y hy=>?_⟩;have:=b3 q y hy
   rwa [hγ q (akY q y hy)]at this
  .obtain⟨a1,a2⟩:=h10 o x hx;exact⟨a1.trans (hγ o (akY o x hx)),a2⟩
theorem amj{l:List gY}{e:TypeId}{r:au}{rest:List iJ}{bI:List qc}{F:jq (.ptr l:: .own e r::rest)->Prop×(lJ bI×kT (.ptr l:: .own e r::rest)->Prop)}
 {F':jq (.ptr l:: .p (.v (.one .nil))::rest)->Prop×(lJ bI×kT (.ptr l:: .own e r::rest)->Prop)} (hr:0<r.len) (h:jm P G f (qm (.ptr l:: .own e r::rest) bI F))
 (hF:∀a x,(F' (a,(),x)).1->(F (a,[],x)).1) (hF2:∀a x,(F' (a,(),x)).1->(F' (a,(),x)).2=(F (a,[],x)).2):jm P G f (qm (.ptr l:: .p (.v (.one .nil))::rest) bI F'):=by
 refine jm.ap9 1 e r hr h λargs p ρ hcon hp=>?_
 match args,hcon with
 |[],hcon=>simp[qm,iR]at hcon
 |[a],hcon=>
  have:iR (.ptr l:: .p (.v (.one .nil))::rest) [a]=none:=by simp only[iR];split<;>simp_all
  simp[qm,this]at hcon
 |a::b::args,hcon=>
  cases ha:(iJ.ptr l).read a with
  |none=>simp[qm,iR,ha]at hcon
  |some a'=>
  cases hb:(iJ.p (.v (.one .nil))).read b with
  |none=>simp[qm,iR,ha,hb]at hcon
  |some b'=>
  cases hx:iR rest args with
  |none=>simp[qm,iR,ha,hb,hx]at hcon
  |some x=>
   have hb2:b=.sv (.one .nil):=by
    cases b with
    |sv s=>cases s with
     |one c=>cases c with
      |nil=>rfl
      |int k n=>cases hb
      |bool k=>cases hb
      |str k=>cases hb
      |sl e r l fr=>cases hb
      |ref o=>cases hb
      |junk=>cases hb
     |agg cs=>cases hb
    |_=>cases hb
   subst hb2;simp only[qm,iR,ha,hb,hx]at hcon;have hcon:=Option.some.inj hcon;have h1:(F' (a',(),x)).1=p:=congrArg Prod.fst hcon;have h2:(⟨lJ bI×kT (.ptr l:: .own e r::rest),(F' (a',(),x)).2,λt=>⟨iQ bI t.1,none⟩,λt=>jS (.ptr l:: .own e r::rest) t.2⟩:Ju)=ρ:=congrArg Prod.snd hcon;have hp':(F' (a',(),x)).1:=h1▸hp;subst h2;refine⟨rfl,λt=>rfl,(F (a',[],x)).1,?_,hF a' x hp'⟩
   .have ho:(iJ.own e r).read (.own e r [])=some []:=by unfold iJ.read;simp only[avE];rw[dif_pos (au.H6 r)];rfl
    simp only[List.set_cons_succ,List.set_cons_zero,qm,iR,ha,ho,hx];have:=hF2 a' x hp';exact congrArg (λz=>some ((F (a',[],x)).1,(⟨lJ bI×kT (.ptr l:: .own e r::rest),z,λt=>⟨iQ bI t.1,none⟩,λt=>jS (.ptr l:: .own e r::rest) t.2⟩:Ju))) this.symm
end Go.Fw
namespace Go.Fw
open Go
theorem af{b:Bool}{A B:Prop}(h1:b=true->A)(h2:b=false->B):cond b A B:=by
 cases b
 .exact h2 rfl
 .exact h1 rfl
theorem iE{D:Type}{A:(D->Prop)->Prop}{R:D->Prop}(f:D)(h1:A λy=>y=f)(h2:R f):∃J:D->Prop,A J/\∀y,J y->R y:=
 ⟨λy=>y=f,h1,λ_ hy=>hy▸h2⟩
theorem drop_cons{α:Type}(a:List α)(n:Nat)(d:α)(h:n<a.length):a.drop n=a.getD n d::a.drop (n+1):=by rw[awk h,auS,auX h,axg]
theorem fE(z:Int)(h:-9223372036854775808<=z/\z<=9223372036854775807):IntKind.i64.wrap z=z:=IntWalk.i64_in z (by omega)
theorem maxLen_eq:maxLen=9223372036854775807:=by decide
theorem iF:big=4294967296:=rfl
theorem getD_mem{α:Type}{l:List α}{n:Nat}{d:α}(h:n<l.length):l.getD n d∈l:=by rw[auS,auX h,axg];exact awg h
end Go.Fw
namespace Go.Fw
open Go
def aqa(w:World)(S:Nat->Prop)(k:Nat)(out:Out)(e:Ending)(w':World):Prop:=
 ∃v vals,e=.returned v/\w'.os=w.os/\w'.tape=w.tape/\w'.output=w.output/\w.heap.size<=w'.heap.size/\
    (∀b,b<w.heap.size->w'.heap[b]? =w.heap[b]?)/\
    aQ ⟨w',w.heap.size,S,vals,Fw.look (out.take k).2⟩ (out.take k).1 v/\
    (∀o x,Fw.look (out.take k).2 o=some x->bC ⟨w',w.heap.size,S,vals,Fw.look (out.take k).2⟩ o x/\∀b,blk (vals o)=some b->w.heap.size<=b/\b<w'.heap.size)/\
    (∀o x q y b,Fw.look (out.take k).2 o=some x->Fw.look (out.take k).2 q=some y->o≠q->blk (vals o)=some b->blk (vals q)≠some b)
theorem ahA{w w':World}{S:Nat->Prop}{k:Nat}{s:Bytes}(hos:w'.os=w.os)(htape:w'.tape=w.tape)(hout:w'.output=w.output)(hsize:w.heap.size<=w'.heap.size)
 (aqb:∀b,b<w.heap.size->w'.heap[b]? =w.heap[b]?) (hs:s.length<=maxLen):aqa w S k ⟨[(false,[.plain (.str s)])],none⟩ (.returned (.string ⟨s.toArray⟩)) w':=
 ⟨_,λ_=>undef,rfl,hos,htape,hout,hsize,aqb,⟨rfl,hs⟩,(λo x hx=>by cases hx),(λo x q y b hx=>by cases hx)⟩
end Go.Fw
namespace Go.Fw
open Go
variable {P:Program}
theorem aja{s:iJ}{sh:List iJ}:∀{args:List Arg}{d:jq (s::sh)},iR (s::sh) args=some d->∃x xs,args=x::xs/\s.read x=some d.1/\iR sh xs=some d.2
 |[],_,h=>by simp[iR]at h
 |x::xs,d,h=>by
  rw[iR]at h;split at h
  .next a b h1 h2=>cases h;exact⟨x,xs,rfl,h1,h2⟩
  .cases h
theorem akZ:∀{args:List Arg}{d:jq []},iR [] args=some d->args=[]
 |[],_,_=>rfl
 |_::_,_,h=>by simp[iR]at h
end Go.Fw
namespace Go.Fw
open Go
variable {P:Program} {H:Type} {enc:TypeId×Value->H} {w:World}
theorem UQ(hl:laidOutB P=true){base:Nat}{sp':Nat->Bool}{W W':World}:∀(ts:List TypeId)(_:ts.all (λt=>P.readableRec t&&decide (t<P.types.size))=true)
 (vs:List Value) (ds:List (DataW H)) (ps:List MemPlace),DataW.TrodAll enc P W base (λ_=>true) true ts vs ds ps->(∀p∈ps,W.sameAt W' p)->(∀p∈ps,sp' p.block=true)->DataW.TrodAll enc P W' base sp' true ts vs ds ps
 |[],_,vs,ds,ps,h,_,_=>by
  cases vs<;>cases ds<;>simp[DataW.TrodAll]at h ⊢;exact h
 |t::ts,ht,vs,ds,ps,h,h1,h2=>by
  rw[avS,auO,auO]at ht;cases vs with
  |nil=>cases ds<;>simp[DataW.TrodAll]at h
  |cons v vs=>
   cases ds with
   |nil=>simp[DataW.TrodAll]at h
   |cons d ds=>
    obtain⟨a,b,g1,g2,rfl⟩:=h;exact⟨a,b,WideElems.Trod_stays hl ht.1.1 (av2 ht.1.2) g1 (λp hp=>h1 p (avC _ hp)) (λp hp=>h2 p (avC _ hp)),
     UQ hl ts ht.2 vs ds b g2 (λp hp=>h1 p (avV _ hp)) (λp hp=>h2 p (avV _ hp)),rfl⟩
theorem trodAll_length{base:Nat}{sp:Nat->Bool}{hd:Bool}{W:World}:∀(ts:List TypeId)(vs:List Value)(ds:List (DataW H))(ps:List MemPlace),DataW.TrodAll enc P W base sp hd ts vs ds ps->ds.length=ts.length
 |[],vs,ds,ps,h=>by cases vs<;>cases ds<;>simp[DataW.TrodAll]at h ⊢
 |t::ts,vs,ds,ps,h=>by
  cases vs with
  |nil=>cases ds<;>simp[DataW.TrodAll]at h
  |cons v vs=>
   cases ds with
   |nil=>simp[DataW.TrodAll]at h
   |cons d ds=>obtain⟨a,b,g1,g2,rfl⟩:=h;simp[trodAll_length ts vs ds b g2]
theorem anz{fn:Func}{s:ChangeSpec}{apart fresh handsOn again:Bool}{W W':World}{args:Array Value}{ds gs:List (DataW H)}{before:List MemPlace}{tb:TypeId}
 (hvars:s.vars=[]) (hspec:∀l:List (DataW H),l.length=fn.params.toList.length->(s.fn H l).results=[.lit (.bool true)]/\(s.fn H l).args=l/\(s.fn H l).vars=[])
 (hres:fn.resultTypes=#[tb]) (hb:P.underlying tb=some .bool) (hl:laidOutB P=true) (hread:fn.params.toList.all (λt=>P.readableRec t&&decide (t<P.types.size))=true)
 (hW:DataW.Whole enc P fn.params.toList s.vars apart W args.toList ds gs before) (hos:W'.os=W.os) (hout:W'.output=W.output) (hheap:∀b,b<W.heap.size->W'.heap[b]? =W.heap[b]?):
 s.post enc P fn apart fresh handsOn again W args (.bool true) W':=by
 have hlt:=hW.lt;have hW0:=hW;obtain⟨p,q,hA,hV,hpq,hz,hn⟩:=hW;rw[hvars]at hV;have hg:gs=[]/\q=[]:=by
  cases gs with
  |nil=>exact⟨rfl,hV⟩
  |cons g gs=>simp[DataW.TrodVars]at hV
 obtain⟨rfl,rfl⟩:=hg;rw[avi]at hpq;subst hpq;have hlen:=trodAll_length _ _ _ _ hA;obtain⟨r1,r2,r3⟩:=hspec (ds++[]) (by simpa using hlen);rw[avi]at r1 r2 r3;have hsame:∀x∈before,W.sameAt W' x:=λx hx=>anx hheap (hlt x hx);have R:∀(b:Nat)(sp:Nat->Bool)(hd:Bool),DataW.TrodAll enc P W' b sp hd fn.resultTypes.toList ((Value.bool true).resultList fn.resultTypes.size) [.lit (.bool true)] []:=by intro b sp hd;rw[hres];exact⟨[],[],⟨1,by simp[DataW.trod,Value.cells,hb]⟩,rfl,rfl⟩
 have A:∀sp:Nat->Bool,(∀x∈before,sp x.block=true)->DataW.TrodAll enc P W' 0 sp true fn.params.toList args.toList ds before:=λsp hsp=>UQ hl _ hread _ _ _ hA hsame hsp;have hold:∀x∈before,(λb=>decide (b<W.heap.size)) x.block=true:=λx hx=>by simpa using hlt x hx
 refine⟨ds,[],before,[],before,[],hW0,?_,?_,?_,anw hos hout hheap _,λ_=>⟨?_,.lit (.bool true)::ds,[],before,⟨before,[],?_,?_,by simp,?_,hn⟩,λx hx _=>hx⟩⟩
 .rw[avi,r1];exact R _ _ _
 .rw[avi,r2];exact A _ hold
 .rw[avi,r3,hvars];rfl
 .intro j t r h1 h2;rw[hres]at h1 h2
  match j with
  |0=>
   simp[Value.resultList]at h1 h2;subst h1 h2;simp[Value.okWide,hb,Go.Cell.okWide,Go.Cell.ok]
  |j+1=>simp at h1
 .exact ChangeShapes.trodAll_append (A _ (λ_ _=>rfl)) (R _ _ _)
 .rw[hvars];rfl
 .intro b off hp;have hbl:=hlt _ hp;have e:W'.frozen? ⟨b,off,none⟩=W.frozen? ⟨b,off,none⟩:=by unfold World.frozen?;simp only;rw[hheap b hbl]
  rw[e];exact hz b off hp
end Go.Fw
namespace Go.Fw
open Go
end Go.Fw
namespace Go.Fw
open Go
theorem Yu{H:Type}{enc:TypeId×Value->H}{C:Checked}{G:jV}{os:Os}{f:FuncId}{fn:Func}{s:ChangeSpec}{conds:List PathCond}{apart fresh handsOn again:Bool}{tb:TypeId}{sh:List iH}{F:jr sh->Prop×Out}
 {X:World->Prop} (hX:∀w w':World,w.heap=w'.heap->X w->X w')
 (own:ownKnob C.prog.godebug=none) (started:os.Started) (noInit:C.prog.inits.idxOf? f=none) (hfn:C.prog.funcs[f]? =some fn)
 (witness:∃(w:World)(tape:Tape)(i:Input),w.os=os/\(w.forCall tape i).Shaped C.prog/\i.vars=[]/\Input.okWide C.prog (w.forCall tape i) .any w.heap.size f i/\
   ((s.pre enc C.prog fn conds apart (w.forCall tape i).memory i.args/\X (w.forCall tape i).memory)/\sizedMet enc C.prog fn (OpenSpec.ofChange s) apart (w.forCall tape i).memory i.args)/\({}:Assume).holds C.prog (lone (Frame.enter C.prog f i.args .normal) [] (w.forCall tape i)))
 (hcon:fG C.prog G f (xK sh F)) (hsh:MB C.prog fn.params.toList=some sh) (hF:∀x,Kt sh x->(F x).1/\(F x).2=adS) (hG:∀w,X w->w.ShapedOpen C.prog->G.ok w)
 (hvars:s.vars=[]) (hspec:∀l:List (DataW H),l.length=fn.params.toList.length->(s.fn H l).results=[.lit (.bool true)]/\(s.fn H l).args=l/\(s.fn H l).vars=[])
 (hres:fn.resultTypes=#[tb]) (hb:C.prog.underlying tb=some .bool) (hl:laidOutB C.prog=true) (hread:fn.params.toList.all (λt=>C.prog.readableRec t&&decide (t<C.prog.types.size))=true):
 ReturnsInHanded {} C os f .any (λw args=>(s.pre enc C.prog fn conds apart w args/\X w)/\sizedMet enc C.prog fn (OpenSpec.ofChange s) apart w args) (s.post enc C.prog fn apart fresh handsOn again):=by
 refine returnsInHanded_of_calls own started noInit witness ?_;intro w tape i _ apj _ hok hpre _;obtain⟨_,_,_,fn',hfn',_,_,_,_,hval⟩:=hok;have e:fn'=fn:=Option.some.inj (hfn'.symm.trans hfn);subst e;obtain⟨⟨⟨ds,gs,before,hw,hc⟩,hx⟩,hz⟩:=hpre;have hW:=DataW.Whole.of_heap (w':=w.forCall tape i) (by rfl) hw;have hW0:=hW;obtain⟨p,q,hA,_⟩:=hW;refine(ami hcon hsh hF (hG (w.forCall tape i) (hX _ _ (by rfl) hx) apj) hA hval).mono ?_;rintro e W' ⟨rfl,h1,h2,_,h3⟩;exact ChangeSpec.post_blind (anz hvars hspec hres hb hl hread hW0 h1 h2 h3)
end Go.Fw
